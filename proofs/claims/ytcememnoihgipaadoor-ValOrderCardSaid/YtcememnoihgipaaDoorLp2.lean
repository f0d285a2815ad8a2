/-
  Part 2 of what the statement rests on: LpM. No condition.
-/
import Derived.Test.YtcememnoihgipaaDoorLp1
import Derived.OrdersIn

set_option linter.all false

/-! LpM -/

namespace Lp
open Go

/-- The same, for one of some worlds that what is protected lay in. -/
def RelV (base prot : Nat → Prop) (V : Wz → Prop) (S : St) (blk : Nat → Option Nat) (a : Act) (w : World) : Prop := ∃ w0, V w0 ∧ Rel base prot w0 S blk a w

/-- What is known of the surroundings. -/
abbrev Env := (Nat → Prop) → (Nat → Prop) → (Wz → Prop) → Prop

/-- From whatever the model's state is that is like S, the code runs into a state that is like one of which Q holds. -/
def PW (P : Program) (l : Option Nat) (E : Env) (c : Code) (Q : Exit → St → Prop) (S : St) : Prop :=
  ∀ (base prot : Nat → Prop) (V : Wz → Prop), E base prot V → ∀ (blk : Nat → Option Nat) (a : Act) (w : World), RelV base prot V S blk a w →
    c.wpIn (fen l) 0 P (fun e a' w' => ∃ S' blk', Q e S' ∧ RelV base prot V S' blk' a' w') a w

/-- One state says less than another one. -/
def Weak (m : Nat) (S S' : St) : Prop := ∀ (base prot : Nat → Prop) (w0 : Wz) (blk : Nat → Option Nat) (a : Act) (w : World), w0.nx ≤ m → Rel base prot w0 S blk a w → ∃ blk', Rel base prot w0 S' blk' a w

def thenS (next : St → Prop) (Q : Exit → St → Prop) : Exit → St → Prop
  | .normal, S => next S
  | e, S => Q e S

def blockS (id : Nat) (Q : Exit → St → Prop) : Exit → St → Prop
  | .exit id', S => if id' = id then Q .normal S else Q (.exit id') S
  | e, S => Q e S

variable {P : Program} {D : TypeId → TInfo} {l : Option Nat} {E : Env} {Q : Exit → St → Prop} {S : St}

theorem PW.mono {c : Code} {Q' : Exit → St → Prop} (h : PW P l E c Q S) (hq : ∀ e S, Q e S → Q' e S) : PW P l E c Q' S :=
  fun base prot V hE blk a w R => wpIn_mono (h base prot V hE blk a w R) fun e _ _ ⟨S', blk', h1, h2⟩ => ⟨S', blk', hq e S' h1, h2⟩

theorem PW.weak {c : Code} {S' : St} {m : Nat} (hE : ∀ base prot V, E base prot V → ∀ w0, V w0 → w0.nx ≤ m) (hw : Weak m S S') (h : PW P l E c Q S') : PW P l E c Q S :=
  fun base prot V hE' blk a w ⟨w0, hV, R⟩ => let ⟨blk', R'⟩ := hw base prot w0 blk a w (hE base prot V hE' w0 hV) R; h base prot V hE' blk' a w ⟨w0, hV, R'⟩

theorem PW.skip (h : Q .normal S) : PW P l E .skip Q S := fun _ _ _ _ blk _ _ R => wpIn_skip ⟨S, blk, h, R⟩
theorem PW.exit {id : Nat} (h : Q (.exit id) S) : PW P l E (.exit id) Q S := fun _ _ _ _ blk _ _ R => wpIn_exit ⟨S, blk, h, R⟩
theorem PW.ret (h : Q .ret S) : PW P l E .ret Q S := fun _ _ _ _ blk _ _ R => wpIn_ret ⟨S, blk, h, R⟩

theorem PW.seq {x y : Code} (h : PW P l E x (thenS (fun S' => PW P l E y Q S') Q) S) : PW P l E (.seq x y) Q S := by
  intro base prot V hE blk a w R
  refine wpIn_seq (wpIn_mono (h base prot V hE blk a w R) ?_)
  rintro e a' w' ⟨S', blk', h1, h2⟩
  cases e with
  | normal => exact h1 base prot V hE blk' a' w' h2
  | _ => exact ⟨S', blk', h1, h2⟩

theorem PW.block {id : Nat} {c : Code} (h : PW P l E c (blockS id Q) S) : PW P l E (.block id c) Q S := by
  intro base prot V hE blk a w R
  refine wpIn_block (wpIn_mono (h base prot V hE blk a w R) ?_)
  rintro e a' w' ⟨S', blk', h1, h2⟩
  cases e with
  | exit id' =>
    simp only [Exit.inBlock, blockS] at h1 ⊢
    split
    · rename_i e; rw [if_pos e] at h1; exact ⟨S', blk', h1, h2⟩
    · rename_i e; rw [if_neg e] at h1; exact ⟨S', blk', h1, h2⟩
  | _ => exact ⟨S', blk', h1, h2⟩

def condR (v : PV) (X Y : Prop) : Prop :=
  match v with
  | .bool b => (b = true → X) ∧ (b = false → Y)
  | _ => False

theorem PW.cond {c : Operand} {x y : Code} (h : condR (S.ev c) (PW P l E x Q S) (PW P l E y Q S)) : PW P l E (.cond c x y) Q S := by
  intro base prot V hE blk a w R
  have hc := R.choose_spec.2.ev c
  unfold condR at h
  split at h
  · rename_i b e
    rw [e] at hc
    exact wpIn_cond_split hc.bool (fun hb => h.1 hb base prot V hE blk a w R) (fun hb => h.2 hb base prot V hE blk a w R)
  · exact h.elim

/-! ### Regions -/

/-- Whether a guarded operation runs. -/
def guardR (ops : List Oper) (g : Option (Nat × Bool)) (S : St) (X Y : St → Prop) : Prop :=
  match g with
  | none => X S
  | some (j, want) =>
    match (ops[j]?).bind (·.dst) with
    | none => False
    | some d =>
      match S.tmps.getD d .dead with
      | .bool b => (b = want → X { S with tmps := S.tmps.set d (.bool want) }) ∧ (b = !want → Y { S with tmps := S.tmps.set d (.bool !want) })
      | .tup [] => Y S
      | _ => False

/-- Operations, one behind the other; what has been touched is told. -/
def listR (P : Program) (D : TypeId → TInfo) (own : Nat → Bool) (ops : List Oper) : List Oper → Nat → St → List Nat → (St → List Nat → Prop) → Prop
  | [], _, S, ts, K => K S ts
  | o :: rest, i, S, ts, K =>
    guardR ops o.guard S
      (fun S => opR P D (own i) S.ev S.objs o.op fun r objs' t => listR P D own ops rest (i + 1) (St.put ⟨S.tmps, objs'⟩ o.dst r) (ts ++ [t]) K)
      (fun S => listR P D own ops rest (i + 1) (S.put o.dst (.tup [])) (ts ++ [0]) K)

theorem undef_rep (w : World) (ok : Nat → Prop) (objs : List Obj) (blk : Nat → Option Nat) : RepT w ok objs blk (.tup []) undef := ⟨[], rfl, rfl, fun _ _ _ h => by simp at h⟩

theorem not_defer {ev : Operand → PV} {objs : List Obj} {K : KT} {own : Bool} {op : Op} (h : opR P D own ev objs op K) : ∀ c, op ≠ .defer c := by
  rintro c rfl
  exact h

theorem getD_eval {base prot : Nat → Prop} {w0 : Wz} {blk : Nat → Option Nat} {a : Act} {w : World} (R : Rel base prot w0 S blk a w) (d : Nat) :
    RepT w (okL base S.objs blk) S.objs blk (S.tmps.getD d .dead) (a.tmps.getD d undef) := R.ev (.tmp d)

theorem set_same {xs : List PV} {d : Nat} {p : PV} (h : xs.getD d .dead = p) (hp : p ≠ .dead) : xs.set d p = xs := by
  by_cases hd : d < xs.length
  · rw [List.getD_eq_getElem?_getD, List.getElem?_eq_getElem hd, Option.getD_some] at h
    subst h
    exact List.set_getElem_self hd
  · rw [List.getD_eq_getElem?_getD, List.getElem?_eq_none (Nat.le_of_not_lt hd), Option.getD_none] at h
    exact absurd h.symm hp

/-- Whether the model's guarded operation is wanted: as the pure guard says. -/
theorem guard_sound {ops : List Oper} {g : Option (Nat × Bool)} {X Y : St → Prop} {base prot : Nat → Prop} {w0 : Wz} {blk : Nat → Option Nat} {a : Act} {w : World}
    (R : Rel base prot w0 S blk a w) (h : guardR ops g S X Y) (o : Oper) (ho : o.guard = g) :
    (Region.wanted o (yielded ops.toArray a.tmps) = true ∧ X S) ∨ (Region.wanted o (yielded ops.toArray a.tmps) = false ∧ Y S) := by
  unfold guardR at h
  split at h
  · exact .inl ⟨by simp [Region.wanted, ho], h⟩
  · rename_i j want
    split at h
    · exact h.elim
    · rename_i d hd
      have hy : yielded ops.toArray a.tmps j = (match a.tmps[d]? with | some (.bool b) => some b | _ => none) := by
        have hd' : (ops.toArray[j]?).bind (·.dst) = some d := by simpa using hd
        unfold yielded
        rw [hd']
        rfl
      have hr := getD_eval R d
      split at h
      · rename_i b hb
        rw [hb] at hr
        have hv := hr.bool
        have hlt : d < a.tmps.size := by
          rcases Nat.lt_or_ge d a.tmps.size with hh | hh
          · exact hh
          · rw [Array.getD_eq_getD_getElem?, Array.getElem?_eq_none hh] at hv
            simp [undef] at hv
        have hg : a.tmps[d]? = some (.bool b) := by
          rw [Array.getD_eq_getD_getElem?, Array.getElem?_eq_getElem hlt, Option.getD_some] at hv
          rw [Array.getElem?_eq_getElem hlt, hv]
        rw [hg] at hy
        simp only [] at hy
        by_cases hbw : b = want
        · left
          have := h.1 hbw
          rw [set_same (by rw [hb, hbw]) (by simp)] at this
          exact ⟨by simp [Region.wanted, ho, hy, hbw], this⟩
        · right
          have hbn : b = !want := by cases b <;> cases want <;> simp_all
          have := h.2 hbn
          rw [set_same (by rw [hb, hbn]) (by simp)] at this
          exact ⟨by simp [Region.wanted, ho, hy, hbn], this⟩
      · rename_i hb
        rw [hb] at hr
        right
        obtain ⟨vs, hv, hl⟩ := hr
        have hvs : vs = [] := List.eq_nil_of_length_eq_zero hl.1.symm
        subst hvs
        have hn : (match a.tmps[d]? with | some (.bool b) => some b | _ => none) = none := by
          rw [Array.getD_eq_getD_getElem?] at hv
          cases hx : a.tmps[d]? with
          | none => rfl
          | some v => rw [hx, Option.getD_some] at hv; subst hv; rfl
        rw [hn] at hy
        exact ⟨by simp [Region.wanted, ho, hy], h⟩
      · exact h.elim

theorem listR_sound {own : Nat → Bool} {ops : List Oper} {Qm : Exit → Act → World → Prop} (hD : ∀ t, TOk P t (D t)) (base prot : Nat → Prop) (w0 : Wz) :
    ∀ (lst : List Oper) (k : Nat) (S : St) (ts : List Nat) (K : St → List Nat → Prop) (blk : Nat → Option Nat) (a : Act) (w : World), (∀ j, lst[j]? = ops[k + j]?) → listR P D own ops lst k S ts K → Rel base prot w0 S blk a w →
      (∀ S' ts' blk' a' w', K S' ts' → Rel base prot w0 S' blk' a' w' → Qm .normal a' w') → wpOpsIn (fen l) 0 P ops.toArray Qm (List.range' k lst.length) a w
  | [], k, S, ts, K, blk, a, w, _, h, R, hq => hq S ts blk a w h R
  | o :: lst, k, S, ts, K, blk, a, w, hl, h, R, hq => by
    have h0 : ops.toArray[k]? = some o := by simpa using (hl 0).symm
    have hl' : ∀ j, lst[j]? = ops[k + 1 + j]? := fun j => by have := hl (j + 1); simpa [Nat.add_assoc, Nat.add_comm 1 j] using this
    simp only [List.length_cons, List.range'_succ, wpOpsIn, h0]
    unfold listR at h
    rcases guard_sound R h o rfl with ⟨hw, hx⟩ | ⟨hw, hy⟩
    · rw [if_pos hw]
      exact op_sound l hD R hx fun r objs' t v w' blk' hK R' hr => listR_sound hD base prot w0 lst (k + 1) _ _ K blk' _ w' hl' hK (R'.put hr o.dst) hq
    · rw [if_neg (by rw [hw]; simp)]
      exact ⟨fun _ _ => trivial, listR_sound hD base prot w0 lst (k + 1) _ _ K blk _ w hl' hy (R.put (undef_rep _ _ _ _) o.dst) hq⟩

theorem PW.region {id : Nat} {ops : List Oper} (own : Nat → Bool) (hD : ∀ t, TOk P t (D t)) (h : listR P D own ops ops 0 S [] fun S' _ => Q .normal S') : PW P l E (.region id ops.toArray false) Q S := by
  intro base prot V hE blk a w ⟨w0, hV, R⟩
  refine wpIn_region ?_
  have := listR_sound (l := l) (Qm := fun e a' w' => ∃ S' blk', Q e S' ∧ RelV base prot V S' blk' a' w') hD base prot w0 ops 0 S [] _ blk a w (fun j => by simp) h R (fun S' ts' blk' a' w' hK R' => ⟨S', blk', hK, w0, hV, R'⟩)
  rw [List.range_eq_range']
  simpa using this

end Lp
