/-
  Part 2 of what the statement rests on: LpL, LpM. No condition.
-/
import Derived.Test.YtodbjiolgapbfaaLp1
import Derived.OrdersIn

set_option linter.all false

/-! LpL -/

namespace Lp
open Go

/-- A touch, told roughly: none, read, written. -/
def co (t : Nat) : Nat := if t ≤ 2 then t else if t % 2 = 0 then 1 else 2

theorem co_rd (k : Nat) : co (4 + 2 * k) = 1 := by unfold co; rw [if_neg (by omega), if_pos (by omega)]
theorem co_wr (k : Nat) : co (5 + 2 * k) = 2 := by unfold co; rw [if_neg (by omega), if_neg (by omega)]
theorem co_zero {t : Nat} (h : t ≠ 0) : co t ≠ 0 := by unfold co; split <;> (try split) <;> omega

/-- What a new object's reference looks like. -/
def Mk (mk : Nat → PV) : Prop := mk = (fun n => .osl n 1) ∨ mk = (fun n => .optr n 1 0 0)

/-- What a touch of one object says: what is done hangs on that object alone. -/
structure Fine (A : List Obj → KT → Prop) (objs : List Obj) (r : PV) (o : List Obj) (t : Nat) : Prop where
  rd : ∀ k, t = 4 + 2 * k → o = objs ∧ k < objs.length ∧ ∀ (objs2 : List Obj) (K' : KT), objs2[k]? = objs[k]? → K' r objs2 t → A objs2 K'
  wr : ∀ k, t = 5 + 2 * k → (∃ o1, k < objs.length ∧ o = objs.set k o1 ∧ ∀ (objs2 : List Obj) (K' : KT), objs2[k]? = objs[k]? → K' r (objs2.set k o1) t → A objs2 K') ∨
    (k = objs.length ∧ ∃ o1 mk, Mk mk ∧ r = mk k ∧ o = objs ++ [o1] ∧ o1.live = true ∧ o1.ver = 1 ∧ ∀ (objs2 : List Obj) (K' : KT), K' (mk objs2.length) (objs2 ++ [o1]) (5 + 2 * objs2.length) → A objs2 K')

def Fac (A : List Obj → KT → Prop) (objs : List Obj) (K : KT) : Prop :=
  ∃ r o t, K r o t ∧ (co t ≠ 2 → o = objs) ∧ (∀ K' : KT, K' r o t → A objs K') ∧ (t = 0 → ∀ (objs2 : List Obj) (K' : KT), K' r objs2 0 → A objs2 K') ∧ Fine A objs r o t

theorem Fine.few {A : List Obj → KT → Prop} {objs : List Obj} {r : PV} {o : List Obj} {t : Nat} (h : t ≤ 2) : Fine A objs r o t := ⟨fun k e => by omega, fun k e => by omega⟩

variable {P : Program} {D : TypeId → TInfo} {ev : Operand → PV} {objs : List Obj} {K : KT}

theorem Fac.zero {A : List Obj → KT → Prop} {r : PV} (hK : K r objs 0) (h : ∀ (o : List Obj) (K' : KT), K' r o 0 → A o K') : Fac A objs K := ⟨r, objs, 0, hK, fun _ => rfl, h _, fun _ o => h o, .few (by decide)⟩
theorem Fac.rd {A : List Obj → KT → Prop} {r : PV} (k : Nat) {o : Obj} (hk : objs[k]? = some o) (hK : K r objs (4 + 2 * k)) (h : ∀ (objs2 : List Obj) (K' : KT), objs2[k]? = objs[k]? → K' r objs2 (4 + 2 * k) → A objs2 K') : Fac A objs K :=
  ⟨r, objs, _, hK, fun _ => rfl, fun K' hk => h objs K' rfl hk, fun e => by omega, fun k' e => by
    have : k' = k := by omega
    subst this; exact ⟨rfl, (List.getElem?_eq_some_iff.1 hk).1, fun objs2 K' he hk => h objs2 K' he hk⟩, fun k' e => by omega⟩
theorem Fac.wr {A : List Obj → KT → Prop} {r : PV} (k : Nat) {o : Obj} (o1 : Obj) (hk : objs[k]? = some o) (hK : K r (objs.set k o1) (5 + 2 * k))
    (h : ∀ (objs2 : List Obj) (K' : KT), objs2[k]? = objs[k]? → K' r (objs2.set k o1) (5 + 2 * k) → A objs2 K') : Fac A objs K :=
  ⟨r, _, _, hK, fun e => absurd (co_wr k) e, fun K' hk => h objs K' rfl hk, fun e => by omega, fun k' e => by omega, fun k' e => by
    have : k' = k := by omega
    subst this; exact .inl ⟨o1, (List.getElem?_eq_some_iff.1 hk).1, rfl, fun objs2 K' he hk => h objs2 K' he hk⟩⟩
theorem Fac.new {A : List Obj → KT → Prop} (mk : Nat → PV) (hm : Mk mk) (o1 : Obj) (hl : o1.live = true) (hv : o1.ver = 1) (hK : K (mk objs.length) (objs ++ [o1]) (5 + 2 * objs.length))
    (h : ∀ (objs2 : List Obj) (K' : KT), K' (mk objs2.length) (objs2 ++ [o1]) (5 + 2 * objs2.length) → A objs2 K') : Fac A objs K :=
  ⟨_, _, _, hK, fun e => absurd (co_wr _) e, fun K' hk => h objs K' hk, fun e => by omega, fun k' e => by omega, fun k' e => by
    have : k' = objs.length := by omega
    subst this; exact .inr ⟨rfl, o1, mk, hm, rfl, rfl, hl, hv, h⟩⟩
theorem Fac.two {A : List Obj → KT → Prop} {r : PV} {o : List Obj} (hK : K r o 2) (h : ∀ K' : KT, K' r o 2 → A objs K') : Fac A objs K := ⟨r, o, 2, hK, fun e => absurd (by decide) e, h, fun e => absurd e (by decide), .few (by decide)⟩

/-- A pure continuation's one result. -/
def FacP (A : (PV → Prop) → Prop) (K : PV → Prop) : Prop := ∃ r, K r ∧ ∀ K' : PV → Prop, K' r → A K'

theorem FacP.fac {A : (PV → Prop) → Prop} (h : FacP A (fun r => K r objs 0)) : Fac (fun o K => A (fun r => K r o 0)) objs K := by
  obtain ⟨r, h1, h2⟩ := h
  exact .zero h1 fun o K' hk => h2 _ hk

theorem facP_binI {op : BinOp} {k k' : IntKind} {x y : Int} {K : PV → Prop} (h : binI op k k' x y K) : FacP (binI op k k' x y) K := by
  cases op <;> simp only [binI] at h <;> (first
    | (obtain ⟨h1, h2, h3, h4⟩ := h; exact ⟨_, h4, fun _ hk => ⟨h1, h2, h3, hk⟩⟩)
    | (obtain ⟨h1, h2, h3⟩ := h; exact ⟨_, h3, fun _ hk => ⟨h1, h2, hk⟩⟩)
    | (obtain ⟨h1, h2⟩ := h; exact ⟨_, h2, fun _ hk => ⟨h1, hk⟩⟩))

theorem facP_binS {op : BinOp} {x y : List UInt8} {K : PV → Prop} (h : binS op x y K) : FacP (binS op x y) K := by
  cases op <;> simp only [binS] at h <;> (first
    | exact h.elim
    | (obtain ⟨h1, h2⟩ := h; exact ⟨_, h2, fun _ hk => ⟨h1, hk⟩⟩)
    | exact ⟨_, h, fun _ hk => hk⟩)

theorem facP_binR {ti : TInfo} {t : TypeId} {op : BinOp} {x y : PV} {K : PV → Prop} (h : binR P ti t op x y K) : FacP (binR P ti t op x y) K := by
  unfold binR at h
  split at h
  · exact facP_binI h
  · exact facP_binS h
  · obtain ⟨h1, h⟩ := h
    cases op <;> simp only [] at h <;> first | exact h.elim | exact ⟨_, h, fun _ hk => ⟨h1, hk⟩⟩
  · obtain ⟨h1, r, h2, h⟩ := h
    cases op <;> simp only [] at h <;> first | exact h.elim | exact ⟨_, h, fun _ hk => ⟨h1, r, h2, hk⟩⟩
  · obtain ⟨h1, h⟩ := h
    cases op <;> simp only [] at h <;> first | exact h.elim | exact ⟨_, h, fun _ hk => ⟨h1, hk⟩⟩
  · exact h.elim

theorem facP_unR {op : UnOp} {x : PV} {K : PV → Prop} (h : unR op x K) : FacP (unR op x) K := by
  unfold unR at h
  split at h
  · exact ⟨_, h, fun _ hk => hk⟩
  · exact ⟨_, h.2, fun _ hk => ⟨h.1, hk⟩⟩
  · exact h.elim

theorem facP_convR {s d : TInfo} {x : PV} {K : PV → Prop} (h : convR s d x K) : FacP (convR s d x) K := by
  unfold convR at h
  split at h
  · rename_i e; exact ⟨_, h.2, fun _ hk => by unfold convR; rw [e]; exact ⟨h.1, hk⟩⟩
  · rename_i e; exact ⟨_, h.2, fun _ hk => by unfold convR; rw [e]; exact ⟨h.1, hk⟩⟩
  · exact h.elim

theorem facP_minmax {m : Bool} {xs : List PV} {K : PV → Prop} (h : minmaxR m xs K) : FacP (minmaxR m xs) K := by
  unfold minmaxR at h
  split at h
  · exact ⟨_, h.2, fun _ hk => ⟨h.1, hk⟩⟩
  · exact h.elim

theorem fac_pick {c x y : PV} (h : pickR c x y objs K) : Fac (pickR c x y) objs K := by
  unfold pickR at h
  split at h
  · exact .zero h fun _ _ hk => hk
  · exact h.elim

theorem fac_load {ti : TInfo} {p : PV} (h : loadR ti p objs K) : Fac (loadR ti p) objs K := by
  unfold loadR at h
  split at h
  · obtain ⟨h1, h2, h3, h4⟩ := h
    exact .zero h4 fun _ _ hk => ⟨h1, h2, h3, hk⟩
  · obtain ⟨o, e, h1, h2, h3, h4, h5, h6, h7, h8, h9⟩ := h
    exact .rd _ h1 h9 fun _ _ he hk => ⟨o, e, he.trans h1, h2, h3, h4, h5, h6, h7, h8, hk⟩
  · exact h.elim

theorem fac_store {ti : TInfo} {p v : PV} (h : storeR ti p v objs K) : Fac (storeR ti p v) objs K := by
  unfold storeR at h
  split at h
  · obtain ⟨o, e, h1, h2, h3, h4, h5, h6, h7, h8, h9, h10⟩ := h
    exact .wr _ _ h1 h10 fun _ _ he hk => ⟨o, e, he.trans h1, h2, h3, h4, h5, h6, h7, h8, h9, hk⟩
  · exact h.elim

theorem fieldOf_fac {t : TypeId} {f : Nat} {X : Nat → TInfo → Prop} (h : fieldOf D t f X) : ∃ off ti, X off ti ∧ ∀ X' : Nat → TInfo → Prop, X' off ti → fieldOf D t f X' := by
  unfold fieldOf at h
  split at h
  · rename_i fs hk
    obtain ⟨x, h1, h2, h3, h4⟩ := h
    exact ⟨_, _, h4, fun X' hx => by unfold fieldOf; rw [hk]; exact ⟨x, h1, h2, h3, hx⟩⟩
  · exact h.elim

theorem fac_fieldAddr {t : TypeId} {p : PV} {f : Nat} (h : fieldAddrR D t p f objs K) : Fac (fieldAddrR D t p f) objs K := by
  unfold fieldAddrR at h
  split at h
  · obtain ⟨off, ti, ⟨h1, h2, h3, h4⟩, g⟩ := fieldOf_fac h
    exact .zero h4 fun _ _ hk => by unfold fieldAddrR; exact g _ ⟨h1, h2, h3, hk⟩
  · obtain ⟨o, h1, h2, h3, h⟩ := h
    obtain ⟨off, ti, h4, g⟩ := fieldOf_fac h
    exact .rd _ h1 h4 fun _ _ he hk => ⟨o, he.trans h1, h2, h3, g _ hk⟩
  · exact h.elim

theorem fac_field {t : TypeId} {p : PV} {f : Nat} (h : fieldR D t p f objs K) : Fac (fieldR D t p f) objs K := by
  unfold fieldR at h
  split at h
  · obtain ⟨off, ti, ⟨h1, h2⟩, g⟩ := fieldOf_fac h
    exact .zero h2 fun _ _ hk => by unfold fieldR; exact g _ ⟨h1, hk⟩
  · exact h.elim

theorem fac_indexAddr {t : TypeId} {x i : PV} (h : indexAddrR D t x i objs K) : Fac (indexAddrR D t x i) objs K := by
  unfold indexAddrR at h
  split at h <;> (try rename_i hk)
  · rename_i e _ _ _ _ _ hk
    obtain ⟨h1, h2, y, h3, h4, h5⟩ := h
    exact .zero h5 fun _ _ hk' => by unfold indexAddrR; rw [hk]; exact ⟨h1, h2, y, h3, h4, hk'⟩
  · rename_i e _ _ _ _ hk
    obtain ⟨h1, h2, o, h3, h4, h5, h6, h7, h8⟩ := h
    exact .rd _ h3 h8 fun _ _ he hk' => by unfold indexAddrR; rw [hk]; exact ⟨h1, h2, o, he.trans h3, h4, h5, h6, h7, hk'⟩
  · rename_i m e _ _ _ hk
    obtain ⟨h1, h2, h3, h4, h5, h6, h7⟩ := h
    exact .zero h7 fun _ _ hk' => by unfold indexAddrR; rw [hk]; exact ⟨h1, h2, h3, h4, h5, h6, hk'⟩
  · rename_i m e _ _ _ _ _ _ hk
    obtain ⟨h1, h2, h3, o, h4, h5, h6, h7⟩ := h
    exact .rd _ h4 h7 fun _ _ he hk' => by unfold indexAddrR; rw [hk]; exact ⟨h1, h2, h3, o, he.trans h4, h5, h6, hk'⟩
  · exact h.elim

theorem fac_index {t : TypeId} {x i : PV} (h : indexR D t x i objs K) : Fac (indexR D t x i) objs K := by
  unfold indexR at h
  split at h <;> (try rename_i hk)
  · obtain ⟨h1, b, h2, h3⟩ := h
    exact .zero h3 fun _ _ hk' => by unfold indexR; rw [hk]; exact ⟨h1, b, h2, hk'⟩
  · obtain ⟨h1, h2, h3, h4, h5, h6⟩ := h
    exact .zero h6 fun _ _ hk' => by unfold indexR; rw [hk]; exact ⟨h1, h2, h3, h4, h5, hk'⟩
  · exact h.elim

theorem boundR_fac {x : Option PV} {d : Int} {X : Int → Prop} (h : boundR x d X) : ∃ n, X n ∧ ∀ X' : Int → Prop, X' n → boundR x d X' := by
  unfold boundR at h
  split at h
  · exact ⟨_, h, fun _ hx => hx⟩
  · exact ⟨_, h, fun _ hx => hx⟩
  · exact h.elim

theorem fac_slice {t : TypeId} {x : PV} {lo hi : Option PV} (h : sliceR D t x lo hi objs K) : Fac (sliceR D t x lo hi) objs K := by
  unfold sliceR at h
  split at h <;> (try rename_i hk)
  · obtain ⟨l, h, g1⟩ := boundR_fac h
    obtain ⟨m, ⟨h1, h2, h3, h4⟩, g2⟩ := boundR_fac h
    exact .zero h4 fun _ _ hk' => by unfold sliceR; rw [hk]; exact g1 _ (g2 _ ⟨h1, h2, h3, hk'⟩)
  · obtain ⟨e1, e2, h⟩ := h
    obtain ⟨l, h, g1⟩ := boundR_fac h
    obtain ⟨m, ⟨h1, h2, h3, h4⟩, g2⟩ := boundR_fac h
    exact .zero h4 fun _ _ hk' => by unfold sliceR; rw [hk]; exact ⟨e1, e2, g1 _ (g2 _ ⟨h1, h2, h3, hk'⟩)⟩
  · obtain ⟨e1, o, e2, e3, e4, e5, e6, h⟩ := h
    obtain ⟨m, ⟨h1, h2, h3⟩, g2⟩ := boundR_fac h
    exact .wr _ _ e2 h3 fun _ _ he hk' => by unfold sliceR; rw [hk]; exact ⟨e1, o, he.trans e2, e3, e4, e5, e6, g2 _ ⟨h1, h2, hk'⟩⟩
  · obtain ⟨e1, e2, e3, e4, e5, e6, h⟩ := h
    obtain ⟨l, h, g1⟩ := boundR_fac h
    obtain ⟨m, ⟨h1, h2, h3, h4⟩, g2⟩ := boundR_fac h
    exact .zero h4 fun _ _ hk' => by unfold sliceR; rw [hk]; exact ⟨e1, e2, e3, e4, e5, e6, g1 _ (g2 _ ⟨h1, h2, h3, hk'⟩)⟩
  · exact h.elim

theorem fac_len {t : TypeId} {x : PV} (h : lenR D t x objs K) : Fac (lenR D t x) objs K := by
  unfold lenR at h
  split at h <;> (try rename_i hk)
  · exact .zero h fun _ _ hk' => by unfold lenR; rw [hk]; exact hk'
  · exact .zero h fun _ _ hk' => by unfold lenR; rw [hk]; exact hk'
  · obtain ⟨o, e2, e3, e4, h⟩ := h
    exact .rd _ e2 h fun _ _ he hk' => by unfold lenR; rw [hk]; exact ⟨o, he.trans e2, e3, e4, hk'⟩
  · exact h.elim

theorem fillR_fac {place : Nat → Option (Nat × Nat)} : ∀ {parts : List (Nat × PV)} {cs : List PV} {X : List PV → Prop}, fillR place cs parts X → ∃ cs', X cs' ∧ ∀ X' : List PV → Prop, X' cs' → fillR place cs parts X'
  | [], cs, _, h => ⟨cs, h, fun _ hx => hx⟩
  | (_, _) :: _, _, _, ⟨x, h1, h2, h3, h⟩ =>
    let ⟨cs', g1, g2⟩ := fillR_fac h
    ⟨cs', g1, fun _ hx => ⟨x, h1, h2, h3, g2 _ hx⟩⟩

theorem fac_build {t : TypeId} {ps : List (Nat × PV)} (h : buildR' D t ps objs K) : Fac (buildR' D t ps) objs K := by
  obtain ⟨a1, a2, a3, h⟩ := h
  unfold buildR at h
  split at h <;> (try rename_i hk)
  · obtain ⟨h1, h⟩ := h
    obtain ⟨cs, h2, g⟩ := fillR_fac h
    exact .zero h2 fun _ _ hk' => ⟨a1, a2, a3, by unfold buildR; rw [hk]; exact ⟨h1, g _ hk'⟩⟩
  · obtain ⟨h1, h⟩ := h
    obtain ⟨cs, h2, g⟩ := fillR_fac h
    exact .zero h2 fun _ _ hk' => ⟨a1, a2, a3, by unfold buildR; rw [hk]; exact ⟨h1, g _ hk'⟩⟩
  · exact h.elim

theorem fac_buildSlice {own : Bool} {t : TypeId} {n : Nat} {ps : List (Nat × PV)} (h : buildSliceR D own t n ps objs K) : Fac (buildSliceR D own t n ps) objs K := by
  unfold buildSliceR at h
  split at h <;> (try rename_i hk)
  · obtain ⟨h1, h2, h3, h4, h5, h6, h7⟩ := h
    cases own with
    | true =>
      simp only [if_true] at h7
      exact .new (fun n => .osl n 1) (.inl rfl) _ rfl rfl h7 fun _ _ hk' => by unfold buildSliceR; rw [hk]; exact ⟨h1, h2, h3, h4, h5, h6, hk'⟩
    | false =>
      simp only [Bool.false_eq_true, if_false] at h7
      exact .zero h7 fun _ _ hk' => by unfold buildSliceR; rw [hk]; exact ⟨h1, h2, h3, h4, h5, h6, hk'⟩
  · exact h.elim

theorem fac_makeSlice {t : TypeId} {l c : PV} (h : makeSliceR D t l c objs K) : Fac (makeSliceR D t l c) objs K := by
  unfold makeSliceR at h
  split at h <;> (try rename_i hk)
  · obtain ⟨h1, h2, h3, h4, h5, h6, h7, h8, h9⟩ := h
    exact .new (fun n => .osl n 1) (.inl rfl) _ rfl rfl h9 fun _ _ hk' => by unfold makeSliceR; rw [hk]; exact ⟨h1, h2, h3, h4, h5, h6, h7, h8, hk'⟩
  · exact h.elim

theorem srcR_fac {t : TypeId} {x : PV} {X : List PV → Bool → Prop} (h : srcR D t x objs X) : ∃ ys q, X ys q ∧ (∀ X' : List PV → Bool → Prop, X' ys q → srcR D t x objs X') ∧
    (q = false → ∀ (objs2 : List Obj) (X' : List PV → Bool → Prop), X' ys q → srcR D t x objs2 X') := by
  unfold srcR at h
  split at h <;> (try rename_i hk)
  · exact ⟨_, _, h, fun _ hx => by unfold srcR; rw [hk]; exact hx, fun _ _ _ hx => by unfold srcR; rw [hk]; exact hx⟩
  · obtain ⟨o, h1, h2, h3, h⟩ := h
    exact ⟨_, _, h, fun _ hx => by unfold srcR; rw [hk]; exact ⟨o, h1, h2, h3, hx⟩, fun e => by cases e⟩
  · exact ⟨_, _, h, fun _ hx => by unfold srcR; rw [hk]; exact hx, fun _ _ _ hx => by unfold srcR; rw [hk]; exact hx⟩
  · exact h.elim

theorem fac_append {t u : TypeId} {s x : PV} (h : appendR D t u s x objs K) : Fac (appendR D t u s x) objs K := by
  unfold appendR at h
  split at h <;> (try rename_i hk)
  · obtain ⟨h1, h2, h3, h4, h⟩ := h
    obtain ⟨ys, q, ⟨hy, h⟩, g, g2⟩ := srcR_fac h
    split at h
    · rename_i k ver
      obtain ⟨o, e1, e2, e3, e4, e5, e6, e7, e8, e9⟩ := h
      cases q with
      | true => exact .two e9 fun _ hk' => by unfold appendR; rw [hk]; exact ⟨h1, h2, h3, h4, g _ ⟨hy, o, e1, e2, e3, e4, e5, e6, e7, e8, hk'⟩⟩
      | false => exact .wr _ _ e1 e9 fun _ _ he hk' => by unfold appendR; rw [hk]; exact ⟨h1, h2, h3, h4, g2 rfl _ _ ⟨hy, o, he.trans e1, e2, e3, e4, e5, e6, e7, e8, hk'⟩⟩
    · obtain ⟨e1, e2, e3, e4, e5, e6⟩ := h
      cases q with
      | true => exact .two e6 fun _ hk' => by unfold appendR; rw [hk]; exact ⟨h1, h2, h3, h4, g _ ⟨hy, e1, e2, e3, e4, e5, hk'⟩⟩
      | false => exact .new (fun n => .osl n 1) (.inl rfl) _ rfl rfl e6 fun _ _ hk' => by unfold appendR; rw [hk]; exact ⟨h1, h2, h3, h4, g2 rfl _ _ ⟨hy, e1, e2, e3, e4, e5, hk'⟩⟩
    · obtain ⟨e1, e2, e3⟩ := h
      cases q with
      | true => exact .two e3 fun _ hk' => by unfold appendR; rw [hk]; exact ⟨h1, h2, h3, h4, g _ ⟨hy, e1, e2, hk'⟩⟩
      | false => exact .new (fun n => .osl n 1) (.inl rfl) _ rfl rfl e3 fun _ _ hk' => by unfold appendR; rw [hk]; exact ⟨h1, h2, h3, h4, g2 rfl _ _ ⟨hy, e1, e2, hk'⟩⟩
    · exact h.elim
  · exact h.elim

theorem fac_nilCheck {x : PV} (h : nilCheckR x objs K) : Fac (nilCheckR x) objs K := by
  unfold nilCheckR at h
  split at h
  · exact .zero h fun _ _ hk => hk
  · obtain ⟨o, h1, h2, h3, h⟩ := h
    exact .rd _ h1 h fun _ _ he hk => ⟨o, he.trans h1, h2, h3, hk⟩
  · exact h.elim

theorem fac_conv {s t : TypeId} {x : PV} (h : convO D s t x objs K) : Fac (convO D s t x) objs K := by
  by_cases hx : ∃ k ver, x = .osl k ver
  · obtain ⟨k, ver, rfl⟩ := hx
    obtain ⟨ob, bs, h1, h2, h3, h4, h5, h6, h7, h8, h9⟩ := h
    exact .rd k h1 h9 fun objs2 K' he hk => ⟨ob, bs, by rw [he]; exact h1, h2, h3, h4, h5, h6, h7, h8, hk⟩
  · have e : ∀ (objs : List Obj) (K : KT), convO D s t x objs K = convR (D s) (D t) x fun r => K r objs 0 := fun objs K => convO_conv fun k ver e => hx ⟨k, ver, e⟩
    rw [e] at h
    have e2 : convO D s t x = fun (o : List Obj) (K : KT) => convR (D s) (D t) x fun r => K r o 0 := by funext o K; exact e o K
    rw [e2]
    exact (facP_convR h).fac

theorem callR_pure_objs {f : FuncId} {args : List PV} {r : PV} {o : List Obj} (h : CallR P f args objs r o 0) (objs2 : List Obj) : o = objs ∧ CallR P f args objs2 r objs2 0 := by
  cases h with
  | pure _ ha h => exact ⟨rfl, .pure _ ha h⟩

theorem callR_touch {f : FuncId} {args : List PV} {r : PV} {o : List Obj} {t : Nat} (h : CallR P f args objs r o t) (ht : co t ≠ 2) : o = objs := by
  cases h with
  | pure _ ha h => rfl
  | made _ _ _ _ _ => exact absurd (by decide) ht
  | used _ _ _ => exact absurd (by decide) ht
  | madeL _ _ _ _ _ _ => exact absurd (by decide) ht
  | lent _ _ _ _ _ => rfl

theorem fac_call {f : PV} {args : List PV} (h : callR P f args objs K) : Fac (callR P f args) objs K := by
  unfold callR at h
  split at h
  · obtain ⟨r, o, t, hc, hK⟩ := h
    refine ⟨r, o, t, hK, callR_touch hc, fun _ hk => ⟨r, o, t, hc, hk⟩, ?_, .few (by cases hc <;> decide)⟩
    intro ht objs2 K' hk
    subst ht
    exact ⟨r, objs2, 0, (callR_pure_objs hc objs2).2, hk⟩
  · exact h.elim

theorem fac_opR {own : Bool} {op : Op} (h : opR P D own ev objs op K) : Fac (fun o K => opR P D own ev o op K) objs K := by
  unfold opR at h
  split at h
  · exact .zero h fun _ _ hk => hk
  · exact .zero h fun _ _ hk => hk
  · exact fac_pick h
  · obtain ⟨h1, h2, h3, h4⟩ := h
    exact .new (fun n => .optr n 1 0 0) (.inr rfl) _ rfl rfl h4 fun _ _ hk => ⟨h1, h2, h3, hk⟩
  · obtain ⟨h1, h2, h3, h4⟩ := h
    exact .new (fun n => .optr n 1 0 0) (.inr rfl) _ rfl rfl h4 fun _ _ hk => ⟨h1, h2, h3, hk⟩
  · exact fac_build h
  · exact fac_buildSlice h
  · exact fac_load h
  · exact fac_store h
  · exact fac_nilCheck h
  · exact (facP_binR h).fac
  · exact (facP_unR h).fac
  · exact fac_conv h
  · obtain ⟨h1, h2, h3⟩ := h
    exact .zero h3 fun _ _ hk => ⟨h1, h2, hk⟩
  · exact fac_makeSlice h
  · exact fac_slice h
  · exact fac_fieldAddr h
  · exact fac_field h
  · exact fac_indexAddr h
  · exact fac_index h
  · rename_i x i
    unfold extractR at h
    split at h
    · rename_i cs e
      obtain ⟨p, h1, h2⟩ := h
      exact .zero h2 fun _ _ hk => by show extractR (ev x) i _ _; unfold extractR; rw [e]; exact ⟨p, h1, hk⟩
    · exact h.elim
  · rename_i b args ts
    unfold builtinR at h
    split at h
    · rename_i t0 x0 e1 e2
      have hf := fac_len h
      have e' : (fun (o : List Obj) (K : KT) => builtinR D .len ts.toList args.toList ev o K) = lenR D t0 (ev x0) := by
        funext o K; unfold builtinR; rw [e1, e2]
      show Fac (fun (o : List Obj) (K : KT) => builtinR D .len ts.toList args.toList ev o K) objs _
      rw [e']; exact hf
    · rename_i t0 u0 s0 x0 e1 e2
      have hf := fac_append h
      have e' : (fun (o : List Obj) (K : KT) => builtinR D .append ts.toList args.toList ev o K) = appendR D t0 u0 (ev s0) (ev x0) := by
        funext o K; unfold builtinR; rw [e1, e2]
      show Fac (fun (o : List Obj) (K : KT) => builtinR D .append ts.toList args.toList ev o K) objs _
      rw [e']; exact hf
    · obtain ⟨r, g1, g2⟩ := facP_minmax h
      exact .zero g1 fun o K' hk => g2 (fun r => K' r o 0) hk
    · obtain ⟨r, g1, g2⟩ := facP_minmax h
      exact .zero g1 fun o K' hk => g2 (fun r => K' r o 0) hk
    · exact h.elim
  · exact fac_call h
  · exact h.elim

/-- An operation hangs on its operands alone. -/
theorem opR_congr {own : Bool} {op : Op} {ev' : Operand → PV} (he : ∀ x ∈ op.operands, ev x = ev' x) (h : opR P D own ev objs op K) : opR P D own ev' objs op K := by
  have hmap : ∀ (xs : Array Operand), (∀ x ∈ xs, ev x = ev' x) → xs.toList.map ev = xs.toList.map ev' :=
    fun xs hx => List.map_congr_left fun x hm => hx x (by simpa using hm)
  have hmapP : ∀ (ps : Array (Nat × Operand)), (∀ x ∈ ps.toList, ev x.2 = ev' x.2) → ps.toList.map (fun x => (x.1, ev x.2)) = ps.toList.map (fun x => (x.1, ev' x.2)) :=
    fun ps hx => List.map_congr_left fun x hm => by rw [hx x hm]
  unfold opR at h ⊢
  split at h <;> (try simp only [Op.operands, Call.operands] at he)
  case h_1 x => rw [← he x (by simp)]; exact h
  case h_2 x => rw [← he x (by simp)]; exact h
  case h_3 c x y => rw [← he c (by simp), ← he x (by simp), ← he y (by simp)]; exact h
  case h_4 => exact h
  case h_5 t x => rw [← he x (by simp)]; exact h
  case h_6 t ps => rw [← hmapP ps (fun x hx => he x.2 (by simp; exact ⟨x.1, by simpa using hx⟩))]; exact h
  case h_7 t n ps => rw [← hmapP ps (fun x hx => he x.2 (by simp; exact ⟨x.1, by simpa using hx⟩))]; exact h
  case h_8 t x => rw [← he x (by simp)]; exact h
  case h_9 t x y => rw [← he x (by simp), ← he y (by simp)]; exact h
  case h_10 x => rw [← he x (by simp)]; exact h
  case h_11 b t x y u => rw [← he x (by simp), ← he y (by simp)]; exact h
  case h_12 u t x => rw [← he x (by simp)]; exact h
  case h_13 s t x => rw [← he x (by simp)]; exact h
  case h_14 f first cap => rw [← hmap first (fun x hx => he x (by simp [hx])), ← hmap cap (fun x hx => he x (by simp [hx]))]; exact h
  case h_15 t l c => rw [← he l (by simp), ← he c (by simp)]; exact h
  case h_16 t x lo hi =>
    rw [← he x (by simp)]
    have e1 : lo.map ev = lo.map ev' := by cases lo <;> simp; exact he _ (by simp)
    have e2 : hi.map ev = hi.map ev' := by cases hi <;> simp; exact he _ (by simp)
    rw [← e1, ← e2]; exact h
  case h_17 t x f => rw [← he x (by simp)]; exact h
  case h_18 t x f => rw [← he x (by simp)]; exact h
  case h_19 t x i => rw [← he x (by simp), ← he i (by simp)]; exact h
  case h_20 t x i => rw [← he x (by simp), ← he i (by simp)]; exact h
  case h_21 x i => rw [← he x (by simp)]; exact h
  case h_22 b args ts =>
    have ha : ∀ x ∈ args, ev x = ev' x := fun x hx => he x (by simpa using hx)
    unfold builtinR at h ⊢
    split at h
    · rename_i t x e1 e2
      rw [← ha x (by have : x ∈ args.toList := by rw [e2]; simp
                     simpa using this)]
      exact h
    · rename_i t u s x e1 e2
      rw [← ha s (by have : s ∈ args.toList := by rw [e2]; simp
                     simpa using this), ← ha x (by have : x ∈ args.toList := by rw [e2]; simp
                                                   simpa using this)]
      exact h
    · rw [← hmap args ha]; exact h
    · rw [← hmap args ha]; exact h
    · exact h.elim
  case h_23 f args ts =>
    rw [← he f (by simp), ← hmap args (fun x hx => he x (by simp [hx]))]; exact h
  case h_24 => exact h.elim

end Lp

/-! LpM -/

namespace Lp
open Go

/-- The same, for one of some worlds that what is protected lay in. -/
def RelV (base prot : Nat → Prop) (V : Wz → Prop) (S : St) (blk : Nat → Option Nat) (a : Act) (w : World) : Prop := ∃ w0, V w0 ∧ Rel base prot w0 S blk a w

/-- What is known of the surroundings. -/
abbrev Env := (Nat → Prop) → (Nat → Prop) → (Wz → Prop) → Prop

/-- From whatever the model's state is that is like S, the code runs into a state that is like one of which Q holds. -/
def PW (P : Program) (l : Option Nat) (E : Env) (c : Code) (Q : Exit → St → Prop) (S : St) : Prop :=
  ∀ (base prot : Nat → Prop) (V : Wz → Prop), E base prot V → ∀ (blk : Nat → Option Nat) (a : Act) (w : World), RelV base prot V S blk a w →
    c.wpIn (fen l) 0 P (fun e a' w' => ∃ S' blk', Q e S' ∧ RelV base prot V S' blk' a' w') a w

/-- One state says less than another one. -/
def Weak (m : Nat) (S S' : St) : Prop := ∀ (base prot : Nat → Prop) (w0 : Wz) (blk : Nat → Option Nat) (a : Act) (w : World), w0.nx ≤ m → Rel base prot w0 S blk a w → ∃ blk', Rel base prot w0 S' blk' a w

def thenS (next : St → Prop) (Q : Exit → St → Prop) : Exit → St → Prop
  | .normal, S => next S
  | e, S => Q e S

def blockS (id : Nat) (Q : Exit → St → Prop) : Exit → St → Prop
  | .exit id', S => if id' = id then Q .normal S else Q (.exit id') S
  | e, S => Q e S

variable {P : Program} {D : TypeId → TInfo} {l : Option Nat} {E : Env} {Q : Exit → St → Prop} {S : St}

theorem PW.mono {c : Code} {Q' : Exit → St → Prop} (h : PW P l E c Q S) (hq : ∀ e S, Q e S → Q' e S) : PW P l E c Q' S :=
  fun base prot V hE blk a w R => wpIn_mono (h base prot V hE blk a w R) fun e _ _ ⟨S', blk', h1, h2⟩ => ⟨S', blk', hq e S' h1, h2⟩

theorem PW.weak {c : Code} {S' : St} {m : Nat} (hE : ∀ base prot V, E base prot V → ∀ w0, V w0 → w0.nx ≤ m) (hw : Weak m S S') (h : PW P l E c Q S') : PW P l E c Q S :=
  fun base prot V hE' blk a w ⟨w0, hV, R⟩ => let ⟨blk', R'⟩ := hw base prot w0 blk a w (hE base prot V hE' w0 hV) R; h base prot V hE' blk' a w ⟨w0, hV, R'⟩

theorem PW.skip (h : Q .normal S) : PW P l E .skip Q S := fun _ _ _ _ blk _ _ R => wpIn_skip ⟨S, blk, h, R⟩
theorem PW.exit {id : Nat} (h : Q (.exit id) S) : PW P l E (.exit id) Q S := fun _ _ _ _ blk _ _ R => wpIn_exit ⟨S, blk, h, R⟩
theorem PW.ret (h : Q .ret S) : PW P l E .ret Q S := fun _ _ _ _ blk _ _ R => wpIn_ret ⟨S, blk, h, R⟩

theorem PW.seq {x y : Code} (h : PW P l E x (thenS (fun S' => PW P l E y Q S') Q) S) : PW P l E (.seq x y) Q S := by
  intro base prot V hE blk a w R
  refine wpIn_seq (wpIn_mono (h base prot V hE blk a w R) ?_)
  rintro e a' w' ⟨S', blk', h1, h2⟩
  cases e with
  | normal => exact h1 base prot V hE blk' a' w' h2
  | _ => exact ⟨S', blk', h1, h2⟩

theorem PW.block {id : Nat} {c : Code} (h : PW P l E c (blockS id Q) S) : PW P l E (.block id c) Q S := by
  intro base prot V hE blk a w R
  refine wpIn_block (wpIn_mono (h base prot V hE blk a w R) ?_)
  rintro e a' w' ⟨S', blk', h1, h2⟩
  cases e with
  | exit id' =>
    simp only [Exit.inBlock, blockS] at h1 ⊢
    split
    · rename_i e; rw [if_pos e] at h1; exact ⟨S', blk', h1, h2⟩
    · rename_i e; rw [if_neg e] at h1; exact ⟨S', blk', h1, h2⟩
  | _ => exact ⟨S', blk', h1, h2⟩

def condR (v : PV) (X Y : Prop) : Prop :=
  match v with
  | .bool b => (b = true → X) ∧ (b = false → Y)
  | _ => False

theorem PW.cond {c : Operand} {x y : Code} (h : condR (S.ev c) (PW P l E x Q S) (PW P l E y Q S)) : PW P l E (.cond c x y) Q S := by
  intro base prot V hE blk a w R
  have hc := R.choose_spec.2.ev c
  unfold condR at h
  split at h
  · rename_i b e
    rw [e] at hc
    exact wpIn_cond_split hc.bool (fun hb => h.1 hb base prot V hE blk a w R) (fun hb => h.2 hb base prot V hE blk a w R)
  · exact h.elim

/-! ### Regions -/

/-- Whether a guarded operation runs. -/
def guardR (ops : List Oper) (g : Option (Nat × Bool)) (S : St) (X Y : St → Prop) : Prop :=
  match g with
  | none => X S
  | some (j, want) =>
    match (ops[j]?).bind (·.dst) with
    | none => False
    | some d =>
      match S.tmps.getD d .dead with
      | .bool b => (b = want → X { S with tmps := S.tmps.set d (.bool want) }) ∧ (b = !want → Y { S with tmps := S.tmps.set d (.bool !want) })
      | .tup [] => Y S
      | _ => False

/-- Operations, one behind the other; what has been touched is told. -/
def listR (P : Program) (D : TypeId → TInfo) (own : Nat → Bool) (ops : List Oper) : List Oper → Nat → St → List Nat → (St → List Nat → Prop) → Prop
  | [], _, S, ts, K => K S ts
  | o :: rest, i, S, ts, K =>
    guardR ops o.guard S
      (fun S => opR P D (own i) S.ev S.objs o.op fun r objs' t => listR P D own ops rest (i + 1) (St.put ⟨S.tmps, objs'⟩ o.dst r) (ts ++ [t]) K)
      (fun S => listR P D own ops rest (i + 1) (S.put o.dst (.tup [])) (ts ++ [0]) K)

theorem undef_rep (w : World) (ok : Nat → Prop) (objs : List Obj) (blk : Nat → Option Nat) : RepT w ok objs blk (.tup []) undef := ⟨[], rfl, rfl, fun _ _ _ h => by simp at h⟩

theorem not_defer {ev : Operand → PV} {objs : List Obj} {K : KT} {own : Bool} {op : Op} (h : opR P D own ev objs op K) : ∀ c, op ≠ .defer c := by
  rintro c rfl
  exact h

theorem getD_eval {base prot : Nat → Prop} {w0 : Wz} {blk : Nat → Option Nat} {a : Act} {w : World} (R : Rel base prot w0 S blk a w) (d : Nat) :
    RepT w (okL base S.objs blk) S.objs blk (S.tmps.getD d .dead) (a.tmps.getD d undef) := R.ev (.tmp d)

theorem set_same {xs : List PV} {d : Nat} {p : PV} (h : xs.getD d .dead = p) (hp : p ≠ .dead) : xs.set d p = xs := by
  by_cases hd : d < xs.length
  · rw [List.getD_eq_getElem?_getD, List.getElem?_eq_getElem hd, Option.getD_some] at h
    subst h
    exact List.set_getElem_self hd
  · rw [List.getD_eq_getElem?_getD, List.getElem?_eq_none (Nat.le_of_not_lt hd), Option.getD_none] at h
    exact absurd h.symm hp

/-- Whether the model's guarded operation is wanted: as the pure guard says. -/
theorem guard_sound {ops : List Oper} {g : Option (Nat × Bool)} {X Y : St → Prop} {base prot : Nat → Prop} {w0 : Wz} {blk : Nat → Option Nat} {a : Act} {w : World}
    (R : Rel base prot w0 S blk a w) (h : guardR ops g S X Y) (o : Oper) (ho : o.guard = g) :
    (Region.wanted o (yielded ops.toArray a.tmps) = true ∧ X S) ∨ (Region.wanted o (yielded ops.toArray a.tmps) = false ∧ Y S) := by
  unfold guardR at h
  split at h
  · exact .inl ⟨by simp [Region.wanted, ho], h⟩
  · rename_i j want
    split at h
    · exact h.elim
    · rename_i d hd
      have hy : yielded ops.toArray a.tmps j = (match a.tmps[d]? with | some (.bool b) => some b | _ => none) := by
        have hd' : (ops.toArray[j]?).bind (·.dst) = some d := by simpa using hd
        unfold yielded
        rw [hd']
        rfl
      have hr := getD_eval R d
      split at h
      · rename_i b hb
        rw [hb] at hr
        have hv := hr.bool
        have hlt : d < a.tmps.size := by
          rcases Nat.lt_or_ge d a.tmps.size with hh | hh
          · exact hh
          · rw [Array.getD_eq_getD_getElem?, Array.getElem?_eq_none hh] at hv
            simp [undef] at hv
        have hg : a.tmps[d]? = some (.bool b) := by
          rw [Array.getD_eq_getD_getElem?, Array.getElem?_eq_getElem hlt, Option.getD_some] at hv
          rw [Array.getElem?_eq_getElem hlt, hv]
        rw [hg] at hy
        simp only [] at hy
        by_cases hbw : b = want
        · left
          have := h.1 hbw
          rw [set_same (by rw [hb, hbw]) (by simp)] at this
          exact ⟨by simp [Region.wanted, ho, hy, hbw], this⟩
        · right
          have hbn : b = !want := by cases b <;> cases want <;> simp_all
          have := h.2 hbn
          rw [set_same (by rw [hb, hbn]) (by simp)] at this
          exact ⟨by simp [Region.wanted, ho, hy, hbn], this⟩
      · rename_i hb
        rw [hb] at hr
        right
        obtain ⟨vs, hv, hl⟩ := hr
        have hvs : vs = [] := List.eq_nil_of_length_eq_zero hl.1.symm
        subst hvs
        have hn : (match a.tmps[d]? with | some (.bool b) => some b | _ => none) = none := by
          rw [Array.getD_eq_getD_getElem?] at hv
          cases hx : a.tmps[d]? with
          | none => rfl
          | some v => rw [hx, Option.getD_some] at hv; subst hv; rfl
        rw [hn] at hy
        exact ⟨by simp [Region.wanted, ho, hy], h⟩
      · exact h.elim

theorem listR_sound {own : Nat → Bool} {ops : List Oper} {Qm : Exit → Act → World → Prop} (hD : ∀ t, TOk P t (D t)) (base prot : Nat → Prop) (w0 : Wz) :
    ∀ (lst : List Oper) (k : Nat) (S : St) (ts : List Nat) (K : St → List Nat → Prop) (blk : Nat → Option Nat) (a : Act) (w : World), (∀ j, lst[j]? = ops[k + j]?) → listR P D own ops lst k S ts K → Rel base prot w0 S blk a w →
      (∀ S' ts' blk' a' w', K S' ts' → Rel base prot w0 S' blk' a' w' → Qm .normal a' w') → wpOpsIn (fen l) 0 P ops.toArray Qm (List.range' k lst.length) a w
  | [], k, S, ts, K, blk, a, w, _, h, R, hq => hq S ts blk a w h R
  | o :: lst, k, S, ts, K, blk, a, w, hl, h, R, hq => by
    have h0 : ops.toArray[k]? = some o := by simpa using (hl 0).symm
    have hl' : ∀ j, lst[j]? = ops[k + 1 + j]? := fun j => by have := hl (j + 1); simpa [Nat.add_assoc, Nat.add_comm 1 j] using this
    simp only [List.length_cons, List.range'_succ, wpOpsIn, h0]
    unfold listR at h
    rcases guard_sound R h o rfl with ⟨hw, hx⟩ | ⟨hw, hy⟩
    · rw [if_pos hw]
      exact op_sound l hD R hx fun r objs' t v w' blk' hK R' hr => listR_sound hD base prot w0 lst (k + 1) _ _ K blk' _ w' hl' hK (R'.put hr o.dst) hq
    · rw [if_neg (by rw [hw]; simp)]
      exact ⟨fun _ _ => trivial, listR_sound hD base prot w0 lst (k + 1) _ _ K blk _ w hl' hy (R.put (undef_rep _ _ _ _) o.dst) hq⟩

theorem PW.region {id : Nat} {ops : List Oper} (own : Nat → Bool) (hD : ∀ t, TOk P t (D t)) (h : listR P D own ops ops 0 S [] fun S' _ => Q .normal S') : PW P l E (.region id ops.toArray false) Q S := by
  intro base prot V hE blk a w ⟨w0, hV, R⟩
  refine wpIn_region ?_
  have := listR_sound (l := l) (Qm := fun e a' w' => ∃ S' blk', Q e S' ∧ RelV base prot V S' blk' a' w') hD base prot w0 ops 0 S [] _ blk a w (fun j => by simp) h R (fun S' ts' blk' a' w' hK R' => ⟨S', blk', hK, w0, hV, R'⟩)
  rw [List.range_eq_range']
  simpa using this

end Lp
