/-
  Part 4 of what the statement rests on: LpV0, LpV1, LpV2, LpV3, LpU, LpI1, LpC1, LpZ, LpEq, LpU2, LpW1, LpW2, LpW3, LpW4, LpW8. No condition.
-/
import Derived.Test.YtcememnoihgipaaDoorLp3
import GoSem.Op.String
import Derived.Test.YtcememnoihgipaaDoorRows
import Derived.Laws.StructEq

set_option linter.all false

/-! LpV0 -/

namespace Lp
open Go

structure Nd where
  kind : Int
  many : Int
  name : List UInt8
  s : List UInt8
  neg : Bool
  e : Int
  deriving DecidableEq

abbrev Vl := List Nd

/-- How many nodes so many values take. -/
def skip : Vl → Nat → Option Nat
  | _, 0 => some 0
  | [], _ + 1 => none
  | n :: v, k + 1 => if n.many < 0 then none else (skip v (k + n.many.toNat)).map (· + 1)

theorem skip_le : ∀ (v : Vl) (k c : Nat), skip v k = some c → k ≤ c ∧ c ≤ v.length
  | v, 0, c, h => by cases v <;> simp [skip] at h <;> subst h <;> simp
  | [], k + 1, c, h => by simp [skip] at h
  | n :: v, k + 1, c, h => by
    simp only [skip] at h
    split at h
    · cases h
    · cases hs : skip v (k + n.many.toNat) with
      | none => rw [hs] at h; simp at h
      | some c' =>
        rw [hs] at h
        simp only [Option.map_some, Option.some.injEq] at h
        obtain ⟨h1, h2⟩ := skip_le v _ c' hs
        simp only [List.length_cons]
        omega

theorem skip_step {n : Nd} {v : Vl} {k c : Nat} (h : skip (n :: v) (k + 1) = some c) : 0 ≤ n.many ∧ ∃ c', c = c' + 1 ∧ skip v (k + n.many.toNat) = some c' := by
  simp only [skip] at h
  split at h
  · cases h
  · cases hs : skip v (k + n.many.toNat) with
    | none => rw [hs] at h; simp at h
    | some c' =>
      rw [hs] at h
      simp only [Option.map_some, Option.some.injEq] at h
      exact ⟨by omega, c', h.symm, rfl⟩

/-- So many values, one behind the other. -/
def parts : Nat → Vl → Option (List Vl)
  | 0, _ => some []
  | k + 1, v => match skip v 1 with
    | some c => (parts k (v.drop c)).map (v.take c :: ·)
    | none => none

theorem parts_len : ∀ (k : Nat) (v : Vl) (ps : List Vl), parts k v = some ps → ps.length = k
  | 0, v, ps, h => by simp [parts] at h; subst h; rfl
  | k + 1, v, ps, h => by
    simp only [parts] at h
    split at h
    · rename_i c _
      cases hp : parts k (v.drop c) with
      | none => rw [hp] at h; simp at h
      | some qs =>
        rw [hp] at h
        simp only [Option.map_some, Option.some.injEq] at h
        subst h
        simp [parts_len k _ qs hp]
    · cases h

theorem parts_step {k : Nat} {v : Vl} {ps : List Vl} (h : parts (k + 1) v = some ps) : ∃ c qs, skip v 1 = some c ∧ ps = v.take c :: qs ∧ parts k (v.drop c) = some qs := by
  simp only [parts] at h
  split at h
  · rename_i c hc
    cases hp : parts k (v.drop c) with
    | none => rw [hp] at h; simp at h
    | some qs =>
      rw [hp] at h
      simp only [Option.map_some, Option.some.injEq] at h
      exact ⟨c, qs, hc, h.symm, hp⟩
  · cases h

theorem parts_le : ∀ (k : Nat) (v : Vl) (ps : List Vl), parts k v = some ps → k ≤ v.length
  | 0, _, _, _ => Nat.zero_le _
  | k + 1, v, ps, h => by
    obtain ⟨c, qs, h1, _, h3⟩ := parts_step h
    have := skip_le _ _ _ h1
    have := parts_le k _ qs h3
    simp only [List.length_drop] at this
    omega

def clr : Vl → Vl
  | [] => []
  | n :: r => { n with name := [] } :: r

def nameOf : Vl → List UInt8
  | [] => []
  | n :: _ => n.name

def namesOf (n : Nd) (ps : List Vl) : List (List UInt8) := if n.kind = 6 then ps.map nameOf else []

def cmpI (x y : Int) : Int := if x < y then -1 else if y < x then 1 else 0
def cmpS (x y : List UInt8) : Int := if Op.bytesLess x y then -1 else if x = y then 0 else 1

def lexBy {α : Type} (f : α → α → Int) : List α → List α → Int
  | [], [] => 0
  | [], _ :: _ => -1
  | _ :: _, [] => 1
  | x :: xs, y :: ys => if f x y = 0 then lexBy f xs ys else f x y

/-! ## texts -/

def contB (s : List UInt8) (i : Nat) : Bool := match s[i]? with
  | some b => decide (128 ≤ b) && decide (b < 192)
  | none => false

/-- How many bytes the rune at the front has; 0: there is none that is valid. -/
def runeN (s : List UInt8) : Nat := match s with
  | [] => 0
  | c :: t =>
    if c < 128 then 1
    else if 194 ≤ c ∧ c < 224 ∧ contB t 0 = true then 2
    else if 224 ≤ c ∧ c < 240 ∧ contB t 0 = true ∧ contB t 1 = true then
      if (c = 224 ∧ t.headD 0 < 160) ∨ (c = 237 ∧ 160 ≤ t.headD 0) then 0 else 3
    else if 240 ≤ c ∧ c < 245 ∧ contB t 0 = true ∧ contB t 1 = true ∧ contB t 2 = true then
      if (c = 240 ∧ t.headD 0 < 144) ∨ (c = 244 ∧ 144 ≤ t.headD 0) then 0 else 4
    else 0

def utfF : Nat → List UInt8 → Bool
  | 0, s => s.isEmpty
  | k + 1, s => s.isEmpty || (runeN s != 0 && utfF k (s.drop (runeN s)))

def utf (s : List UInt8) : Bool := utfF s.length s

theorem utfF_more : ∀ (k l : Nat) (s : List UInt8), s.length ≤ k → s.length ≤ l → utfF k s = utfF l s
  | 0, 0, _, _, _ => rfl
  | 0, l + 1, s, h, _ => by
    have : s = [] := by cases s <;> simp at h ⊢
    subst this; simp [utfF]
  | k + 1, 0, s, _, h => by
    have : s = [] := by cases s <;> simp at h ⊢
    subst this; simp [utfF]
  | k + 1, l + 1, s, h1, h2 => by
    cases s with
    | nil => rfl
    | cons c t =>
      simp only [utfF]
      by_cases h0 : runeN (c :: t) = 0
      · simp [h0]
      · rw [utfF_more k l ((c :: t).drop (runeN (c :: t))) (by simp at *; omega) (by simp at *; omega)]

/-! ## what is right -/

def figs (s : List UInt8) : Bool := s.all fun c => decide (48 ≤ c) && decide (c ≤ 57)

def numB (n : Nd) : Bool :=
  n.many == 0 && figs n.s && decide (n.s.length ≤ 100) && decide (-1000 ≤ n.e) && decide (n.e ≤ 1000) && decide (n.s.length + n.e ≤ 1000) &&
  (if n.s = [] then !n.neg && n.e == 0 else n.s.head? != some 48 && n.s.getLast? != some 48)

/-- Is a node right, whatever its name? -/
def plainB (n : Nd) : Bool :=
  if n.kind = 0 ∨ n.kind = 1 ∨ n.kind = 2 then n.many == 0 && n.s == [] && !n.neg && n.e == 0
  else if n.kind = 3 then numB n
  else if n.kind = 4 then utf n.s && n.many == 0 && !n.neg && n.e == 0
  else if n.kind = 5 ∨ n.kind = 6 then decide (0 ≤ n.many) && n.s == [] && !n.neg && n.e == 0
  else false

/-- As skip; each node has not more parts than L. -/
def nxt (L : Nat) : Vl → Nat → Option Nat
  | _, 0 => some 0
  | [], _ + 1 => none
  | n :: v, k + 1 => if n.many < 0 ∨ (L : Int) < n.many then none else (nxt L v (k + n.many.toNat)).map (· + 1)

theorem nxt_skip (L : Nat) : ∀ (v : Vl) (k c : Nat), nxt L v k = some c → skip v k = some c
  | v, 0, c, h => by cases v <;> simpa [nxt, skip] using h
  | [], k + 1, c, h => by simp [nxt] at h
  | n :: v, k + 1, c, h => by
    simp only [nxt] at h
    split at h
    · cases h
    · rename_i hn
      cases hs : nxt L v (k + n.many.toNat) with
      | none => rw [hs] at h; simp at h
      | some c' =>
        rw [hs] at h
        simp only [Option.map_some, Option.some.injEq] at h
        simp only [skip]
        rw [if_neg (by omega), nxt_skip L v _ c' hs]
        simpa using h

/-- May the names of some parts of a node of a kind be? -/
def risB (kind : Int) : List Vl → Bool
  | [] => true
  | p :: ps => (kind != 5 || nameOf p == []) && utf (nameOf p) && (match ps with | [] => true | q :: _ => kind != 6 || Op.bytesLess (nameOf p) (nameOf q)) && risB kind ps

def goodB : Vl → Bool
  | [] => true
  | n :: r => plainB n && (match parts n.many.toNat r with | some ps => risB n.kind ps | none => false) && goodB r

def rightB (v : Vl) : Bool := !v.isEmpty && nameOf v == [] && nxt v.length v 1 == some v.length && goodB v

def fewB (v : Vl) (most : Nat) : Bool := decide (v.length ≤ most) && v.all (fun n => decide (n.s.length ≤ 200) && decide (n.name.length ≤ 200)) && rightB v

def allN : List Vl → Nat
  | [] => 0
  | v :: l => v.length + 1 + allN l

def allB (l : List Vl) (most : Nat) : Bool := decide (allN l ≤ most) && l.all (fewB · most)

/-! ## the order -/

def partsOf (n : Nd) (r : Vl) : List Vl := ((parts n.many.toNat r).getD []).map clr
def labsOf (n : Nd) (r : Vl) : List (List UInt8) := ((parts n.many.toNat r).getD []).map nameOf

def partsV : Vl → List Vl
  | [] => []
  | n :: r => partsOf n r
def namesV : Vl → List (List UInt8)
  | [] => []
  | n :: r => if n.kind = 6 then labsOf n r else []

def cmpW (num : Nd → Nd → Int) : Nat → Vl → Vl → Int
  | f + 1, n :: r, m :: q =>
    if n.kind ≠ m.kind then cmpI n.kind m.kind
    else if n.kind = 3 then num n m
    else if n.kind = 4 then cmpS n.s m.s
    else if n.kind = 5 then lexBy (cmpW num f) (partsOf n r) (partsOf m q)
    else if n.kind = 6 then
      if lexBy cmpS (labsOf n r) (labsOf m q) = 0 then lexBy (cmpW num f) (partsOf n r) (partsOf m q) else lexBy cmpS (labsOf n r) (labsOf m q)
    else 0
  | _, _, _ => 0

def sizeN (a b : Nd) : Int :=
  if a.s = [] ∨ b.s = [] then cmpI a.s.length b.s.length
  else if cmpI (a.s.length + a.e) (b.s.length + b.e) = 0 then cmpS a.s b.s else cmpI (a.s.length + a.e) (b.s.length + b.e)

def numN (a b : Nd) : Int :=
  if a.neg && !b.neg then -1 else if b.neg && !a.neg then 1 else if a.neg then sizeN b a else sizeN a b

abbrev cmpV := cmpW numN

end Lp

/-! LpV1 -/

namespace Lp
open Go

theorem skip_add : ∀ (v : Vl) (j k c : Nat), skip v (j + k) = some c → ∃ c1 c2, skip v j = some c1 ∧ skip (v.drop c1) k = some c2 ∧ c = c1 + c2
  | v, 0, k, c, h => ⟨0, c, by cases v <;> simp [skip], by simpa using h, by simp⟩
  | [], j + 1, k, c, h => by
    have : j + 1 + k = (j + k) + 1 := by omega
    rw [this] at h
    simp [skip] at h
  | n :: v, j + 1, k, c, h => by
    have e : j + 1 + k = (j + k) + 1 := by omega
    rw [e] at h
    obtain ⟨hm, c', rfl, h'⟩ := skip_step h
    have e2 : j + k + n.many.toNat = (j + n.many.toNat) + k := by omega
    rw [e2] at h'
    obtain ⟨c1, c2, h1, h2, rfl⟩ := skip_add v _ k c' h'
    refine ⟨c1 + 1, c2, ?_, ?_, by omega⟩
    · simp only [skip]
      rw [if_neg (by omega), h1]; rfl
    · simpa using h2

theorem skip_join : ∀ (v : Vl) (j k c1 c2 : Nat), skip v j = some c1 → skip (v.drop c1) k = some c2 → skip v (j + k) = some (c1 + c2)
  | v, 0, k, c1, c2, h, h2 => by
    have : c1 = 0 := by cases v <;> simp [skip] at h <;> exact h.symm
    subst this
    simpa using h2
  | [], j + 1, k, c1, c2, h, h2 => by simp [skip] at h
  | n :: v, j + 1, k, c1, c2, h, h2 => by
    obtain ⟨hm, c', rfl, h'⟩ := skip_step h
    have e : j + 1 + k = (j + k) + 1 := by omega
    rw [e]
    simp only [skip]
    have e2 : j + k + n.many.toNat = (j + n.many.toNat) + k := by omega
    rw [if_neg (by omega), e2, skip_join v _ k c' c2 h' (by simpa using h2)]
    simp only [Option.map_some, Option.some.injEq]
    omega

theorem skip_take : ∀ (v : Vl) (k c : Nat), skip v k = some c → skip (v.take c) k = some c
  | v, 0, c, h => by
    have : c = 0 := by cases v <;> simp [skip] at h <;> exact h.symm
    subst this
    simp [skip]
  | [], k + 1, c, h => by simp [skip] at h
  | n :: v, k + 1, c, h => by
    obtain ⟨hm, c', rfl, h'⟩ := skip_step h
    simp only [List.take_succ_cons, skip]
    rw [if_neg (by omega), skip_take v _ c' h']; rfl

theorem skip_append : ∀ (v w : Vl) (k c : Nat), skip v k = some c → skip (v ++ w) k = some c
  | v, w, 0, c, h => by
    have : c = 0 := by cases v <;> simp [skip] at h <;> exact h.symm
    subst this
    cases v <;> cases w <;> simp [skip]
  | [], w, k + 1, c, h => by simp [skip] at h
  | n :: v, w, k + 1, c, h => by
    obtain ⟨hm, c', rfl, h'⟩ := skip_step h
    simp only [List.cons_append, skip]
    rw [if_neg (by omega), skip_append v w _ c' h']; rfl

theorem skip_clr (v : Vl) (k : Nat) : skip (clr v) k = skip v k := by
  cases v with
  | nil => rfl
  | cons n r => cases k <;> rfl

theorem clr_length (v : Vl) : (clr v).length = v.length := by cases v <;> rfl

/-- One value, whole. -/
def One (v : Vl) : Prop := skip v 1 = some v.length

theorem One.clr {v : Vl} (h : One v) : One (clr v) := by
  unfold One at *
  rw [skip_clr, clr_length, h]

theorem One.ne {v : Vl} (h : One v) : v ≠ [] := by
  rintro rfl
  simp [One, skip] at h

/-- So many values are what 'parts' says. -/
theorem parts_of_skip : ∀ (k : Nat) (v : Vl) (c : Nat), skip v k = some c → ∃ ps, parts k v = some ps ∧ ps.flatten = v.take c ∧ ∀ p ∈ ps, One p
  | 0, v, c, h => by
    have : c = 0 := by cases v <;> simp [skip] at h <;> exact h.symm
    subst this
    exact ⟨[], rfl, by simp, by simp⟩
  | k + 1, v, c, h => by
    have e : k + 1 = 1 + k := by omega
    rw [e] at h
    obtain ⟨c1, c2, h1, h2, rfl⟩ := skip_add v 1 k c h
    obtain ⟨ps, hp, hf, ho⟩ := parts_of_skip k _ c2 h2
    refine ⟨v.take c1 :: ps, by simp [parts, h1, hp], ?_, ?_⟩
    · rw [List.flatten_cons, hf, List.take_add]
    · intro p hpm
      rcases List.mem_cons.1 hpm with rfl | hpm
      · have := skip_take _ _ _ h1
        have hl := skip_le _ _ _ h1
        unfold One
        rw [this, List.length_take]
        congr 1; omega
      · exact ho p hpm

/-- The other way: values, one behind the other. -/
theorem parts_flatten : ∀ (ps : List Vl), (∀ p ∈ ps, One p) → parts ps.length ps.flatten = some ps
  | [], _ => rfl
  | p :: ps, h => by
    have h1 : skip (p ++ ps.flatten) 1 = some p.length := skip_append _ _ _ _ (h p (List.mem_cons_self ..))
    have h2 := parts_flatten ps fun q hq => h q (List.mem_cons_of_mem _ hq)
    simp only [List.length_cons, List.flatten_cons, parts, h1]
    rw [List.drop_left, h2, List.take_left]; rfl

theorem skip_flatten : ∀ (ps : List Vl), (∀ p ∈ ps, One p) → skip ps.flatten ps.length = some ps.flatten.length
  | [], _ => rfl
  | p :: ps, h => by
    have h1 : skip (p ++ ps.flatten) 1 = some p.length := skip_append _ _ _ _ (h p (List.mem_cons_self ..))
    have h2 := skip_flatten ps fun q hq => h q (List.mem_cons_of_mem _ hq)
    have := skip_join (p ++ ps.flatten) 1 ps.length p.length ps.flatten.length h1 (by rw [List.drop_left]; exact h2)
    simp only [List.length_cons, List.flatten_cons, List.length_append]
    rw [Nat.add_comm]; exact this

/-- A value is its node and its parts. -/
theorem One.parts {n : Nd} {r : Vl} (h : One (n :: r)) : 0 ≤ n.many ∧ ∃ ps, parts n.many.toNat r = some ps ∧ ps.flatten = r ∧ ∀ p ∈ ps, One p := by
  obtain ⟨hm, c', hc, h'⟩ := skip_step (k := 0) h
  simp only [List.length_cons, Nat.add_right_cancel_iff] at hc
  subst hc
  rw [Nat.zero_add] at h'
  obtain ⟨ps, h1, h2, h3⟩ := parts_of_skip _ _ _ h'
  exact ⟨hm, ps, h1, by rw [h2, List.take_length], h3⟩

theorem One.made {n : Nd} {ps : List Vl} (hn : n.many = ps.length) (h : ∀ p ∈ ps, One p) : One (n :: ps.flatten) := by
  unfold One
  simp only [skip, Nat.zero_add]
  rw [if_neg (by omega), hn, Int.toNat_natCast, skip_flatten ps h]; rfl

theorem flatten_len_mem {ps : List Vl} {p : Vl} (h : p ∈ ps) : p.length ≤ ps.flatten.length := by
  induction ps with
  | nil => cases h
  | cons q qs ih =>
    rcases List.mem_cons.1 h with rfl | h
    · simp
    · have := ih h
      simp only [List.flatten_cons, List.length_append]
      omega

/-- Values: all their nodes are such. -/
structure Wf (q : Nd → Prop) (v : Vl) : Prop where
  one : One v
  all : ∀ n ∈ v, q n

theorem Wf.parts {q : Nd → Prop} {n : Nd} {r : Vl} (h : Wf q (n :: r)) : 0 ≤ n.many ∧ ∃ ps, parts n.many.toNat r = some ps ∧ ps.flatten = r ∧ ∀ p ∈ ps, Wf q p := by
  obtain ⟨hm, ps, h1, h2, h3⟩ := h.one.parts
  refine ⟨hm, ps, h1, h2, fun p hp => ⟨h3 p hp, fun x hx => h.all x (List.mem_cons_of_mem _ ?_)⟩⟩
  rw [← h2]
  exact List.mem_flatten.2 ⟨p, hp, hx⟩

theorem Wf.clr {q : Nd → Prop} (hq : ∀ n, q n → q { n with name := [] }) {v : Vl} (h : Wf q v) : Wf q (clr v) := by
  refine ⟨h.one.clr, fun n hn => ?_⟩
  cases v with
  | nil => cases hn
  | cons m r =>
    rcases List.mem_cons.1 hn with rfl | hn
    · exact hq m (h.all m (List.mem_cons_self ..))
    · exact h.all n (List.mem_cons_of_mem _ hn)

/-- A part of a value at any place. -/
theorem skip_drop : ∀ (v : Vl) (k c i : Nat), skip v k = some c → i < c → ∃ k' c', skip (v.drop i) (k' + 1) = some c'
  | v, 0, c, i, h, hi => by
    have : c = 0 := by cases v <;> simp [skip] at h <;> exact h.symm
    omega
  | [], k + 1, c, i, h, hi => by simp [skip] at h
  | n :: v, k + 1, c, 0, h, hi => ⟨k, c, by simpa using h⟩
  | n :: v, k + 1, c, i + 1, h, hi => by
    obtain ⟨hm, c', rfl, h'⟩ := skip_step h
    simpa using skip_drop v _ c' i h' (by omega)

theorem One.at {v : Vl} (h : One v) {i : Nat} (hi : i < v.length) : ∃ c, skip (v.drop i) 1 = some c := by
  obtain ⟨k', c', h'⟩ := skip_drop v 1 _ i h hi
  rw [Nat.add_comm] at h'
  obtain ⟨c1, _, h1, _, _⟩ := skip_add _ 1 k' c' h'
  exact ⟨c1, h1⟩

theorem One.partsAt {v : Vl} (h : One v) {i : Nat} (hi : i < v.length) : 0 ≤ v[i].many ∧ ∃ ps, Lp.parts v[i].many.toNat (v.drop (i + 1)) = some ps := by
  obtain ⟨c, hc⟩ := h.at hi
  rw [List.drop_eq_getElem_cons hi] at hc
  obtain ⟨hm, c', rfl, h'⟩ := skip_step (k := 0) hc
  rw [Nat.zero_add] at h'
  obtain ⟨ps, h1, _, _⟩ := parts_of_skip _ _ _ h'
  exact ⟨hm, ps, h1⟩

end Lp

/-! LpV2 -/

namespace Lp
open Go

theorem parts_append : ∀ (k : Nat) (v w : Vl) (ps : List Vl), parts k v = some ps → parts k (v ++ w) = some ps
  | 0, _, _, _, h => h
  | k + 1, v, w, ps, h => by
    obtain ⟨c, qs, h1, rfl, h3⟩ := parts_step h
    have hc := skip_le _ _ _ h1
    have h4 := parts_append k _ w qs h3
    simp only [parts, skip_append v w _ _ h1]
    rw [List.drop_append_of_le_length hc.2, h4, List.take_append_of_le_length hc.2]; rfl

def Good (v : Vl) : Prop := ∀ i n r, v.drop i = n :: r → plainB n = true ∧ ∃ ps, parts n.many.toNat r = some ps ∧ risB n.kind ps = true

theorem goodB_iff : ∀ v : Vl, goodB v = true ↔ Good v
  | [] => ⟨fun _ i n r h => (by simp at h), fun _ => rfl⟩
  | m :: v => by
    constructor
    · intro h i n r hd
      simp only [goodB, Bool.and_eq_true] at h
      obtain ⟨⟨h1, h2⟩, h3⟩ := h
      cases i with
      | zero =>
        simp only [List.drop_zero, List.cons.injEq] at hd
        obtain ⟨rfl, rfl⟩ := hd
        refine ⟨h1, ?_⟩
        cases hp : parts m.many.toNat v with
        | none => rw [hp] at h2; cases h2
        | some ps => rw [hp] at h2; exact ⟨ps, rfl, h2⟩
      | succ i => exact (goodB_iff v).1 h3 i n r (by simpa using hd)
    · intro h
      obtain ⟨h1, ps, h2, h3⟩ := h 0 m v rfl
      have h4 : goodB v = true := (goodB_iff v).2 fun i n r hd => h (i + 1) n r (by simpa using hd)
      simp [goodB, h1, h2, h3, h4]

/-- A right value, plainly. -/
structure Rt (v : Vl) : Prop where
  one : One v
  name : nameOf v = []
  good : Good v

theorem rightB_rt {v : Vl} (h : rightB v = true) : Rt v := by
  simp only [rightB, Bool.and_eq_true, beq_iff_eq] at h
  obtain ⟨⟨⟨_, h2⟩, h3⟩, h4⟩ := h
  exact ⟨nxt_skip _ _ _ _ h3, h2, (goodB_iff v).1 h4⟩

theorem drop_app {p w s : Vl} {m : Nd} {i : Nat} (h : p.drop i = m :: s) : (p ++ w).drop i = m :: (s ++ w) := by
  have hi : i ≤ p.length := by
    rcases Nat.le_total i p.length with h' | h'
    · exact h'
    · rw [List.drop_eq_nil_of_le h'] at h; cases h
  rw [List.drop_append_of_le_length hi, h]; rfl

theorem Good.pre {p w : Vl} (ho : One p) (h : Good (p ++ w)) : Good p := by
  intro i m s hd
  obtain ⟨h1, ps, h2, h3⟩ := h i m (s ++ w) (drop_app hd)
  have hi : i < p.length := by
    rcases Nat.lt_or_ge i p.length with h' | h'
    · exact h'
    · rw [List.drop_eq_nil_of_le h'] at hd; cases hd
  obtain ⟨_, qs, hq⟩ := ho.partsAt hi
  have hd' := hd
  rw [List.drop_eq_getElem_cons hi] at hd'
  obtain ⟨e1, e2⟩ := List.cons.inj hd'
  rw [e1, e2] at hq
  have := parts_append _ _ w _ hq
  rw [h2] at this
  cases this
  exact ⟨h1, ps, hq, h3⟩

theorem Good.suf {p w : Vl} (h : Good (p ++ w)) : Good w := by
  intro i m s hd
  exact h (p.length + i) m s (by rw [← List.drop_drop, List.drop_left]; exact hd)

theorem Good.of_flatten : ∀ (ps : List Vl), (∀ p ∈ ps, One p) → Good ps.flatten → ∀ p ∈ ps, Good p
  | [], _, _, p, hp => by cases hp
  | q :: qs, ho, hg, p, hp => by
    rw [List.flatten_cons] at hg
    rcases List.mem_cons.1 hp with rfl | hp
    · exact hg.pre (ho _ (List.mem_cons_self ..))
    · exact Good.of_flatten qs (fun x hx => ho x (List.mem_cons_of_mem _ hx)) hg.suf p hp

theorem Good.clr {v : Vl} (h : Good v) : Good (clr v) := by
  cases v with
  | nil => exact h
  | cons n r =>
    intro i m s hd
    cases i with
    | zero =>
      simp only [Lp.clr, List.drop_zero, List.cons.injEq] at hd
      obtain ⟨rfl, rfl⟩ := hd
      exact h 0 n r rfl
    | succ i => exact h (i + 1) m s hd

theorem plainB_clr (n : Nd) : plainB { n with name := [] } = plainB n := rfl

theorem clr_name (v : Vl) : nameOf (clr v) = [] := by cases v <;> rfl

/-- A right value's parts. -/
theorem Rt.parts {n : Nd} {r : Vl} (h : Rt (n :: r)) : plainB n = true ∧ 0 ≤ n.many ∧ ∃ ps, parts n.many.toNat r = some ps ∧ ps.flatten = r ∧ risB n.kind ps = true ∧ (∀ p ∈ ps, One p) ∧ ∀ p ∈ ps, Rt (Lp.clr p) := by
  obtain ⟨hm, ps, h1, h2, h3⟩ := h.one.parts
  obtain ⟨hp, qs, hq, hr⟩ := h.good 0 n r rfl
  rw [h1] at hq
  cases hq
  have hg : Good ps.flatten := by rw [h2]; exact (show Good ([n] ++ r) from h.good).suf
  exact ⟨hp, hm, ps, h1, h2, hr, h3, fun p hpm => ⟨(h3 p hpm).clr, clr_name p, (Good.of_flatten ps h3 hg p hpm).clr⟩⟩

theorem partsOf_eq {n : Nd} {r : Vl} {ps : List Vl} (h : parts n.many.toNat r = some ps) : partsOf n r = ps.map clr ∧ labsOf n r = ps.map nameOf := by
  simp [partsOf, labsOf, h]

/-- Clearing is undone by the names. -/
theorem clr_names : ∀ (ps qs : List Vl), (∀ p ∈ ps, p ≠ []) → (∀ p ∈ qs, p ≠ []) → ps.map clr = qs.map clr → ps.map nameOf = qs.map nameOf → ps = qs
  | [], [], _, _, _, _ => rfl
  | [], _ :: _, _, _, h, _ => by simp at h
  | _ :: _, [], _, _, h, _ => by simp at h
  | p :: ps, q :: qs, hp, hq, h1, h2 => by
    simp only [List.map_cons, List.cons.injEq] at h1 h2
    have := clr_names ps qs (fun x hx => hp x (List.mem_cons_of_mem _ hx)) (fun x hx => hq x (List.mem_cons_of_mem _ hx)) h1.2 h2.2
    have hpq : p = q := by
      cases p with
      | nil => exact absurd rfl (hp [] (List.mem_cons_self ..))
      | cons n r =>
        cases q with
        | nil => exact absurd rfl (hq [] (List.mem_cons_self ..))
        | cons m s =>
          have e1 := h1.1
          have e2 := h2.1
          simp only [clr, List.cons.injEq] at e1
          obtain ⟨e3, rfl⟩ := e1
          simp only [nameOf] at e2
          obtain ⟨k, mm, nm, s', ng, e⟩ := n
          obtain ⟨k', mm', nm', s'', ng', e'⟩ := m
          simp only [Nd.mk.injEq] at e3
          simp only at e2
          obtain ⟨rfl, rfl, _, rfl, rfl, rfl⟩ := e3
          subst e2
          rfl
    rw [hpq, this]

/-- The names of a list's parts are empty. -/
theorem risB_arr : ∀ (ps : List Vl), risB 5 ps = true → ps.map nameOf = ps.map fun _ => []
  | [], _ => rfl
  | p :: ps, h => by
    simp only [risB, Bool.and_eq_true] at h
    obtain ⟨⟨⟨h1, _⟩, _⟩, h4⟩ := h
    have : nameOf p = [] := by simpa using h1
    simp only [List.map_cons, this, risB_arr ps h4]

theorem nameOf_nil {v : Vl} (h : nameOf v = []) (hne : v ≠ []) : ∃ n r, v = n :: r ∧ n.name = [] := by
  cases v with
  | nil => exact absurd rfl hne
  | cons n r => exact ⟨n, r, rfl, h⟩

end Lp

/-! LpV3 -/

namespace Lp
open Go

structure Ordr {α : Type} (P : α → Prop) (f : α → α → Int) : Prop where
  rng : ∀ a b, P a → P b → -1 ≤ f a b ∧ f a b ≤ 1
  anti : ∀ a b, P a → P b → f b a = - f a b
  zero : ∀ a b, P a → P b → (f a b = 0 ↔ a = b)
  trans : ∀ a b c, P a → P b → P c → f a b ≤ 0 → f b c ≤ 0 → f a c ≤ 0

theorem cmpI_ordr : Ordr (fun _ => True) cmpI := by
  refine ⟨?_, ?_, ?_, ?_⟩
  · intro a b _ _; unfold cmpI; split <;> (try split) <;> omega
  · intro a b _ _; unfold cmpI; split <;> split <;> (try split) <;> omega
  · intro a b _ _; unfold cmpI; split <;> (try split) <;> constructor <;> intro h <;> omega
  · intro a b c _ _ _; unfold cmpI; repeat' split
    all_goals omega

theorem bl_irrefl : ∀ x : List UInt8, Op.bytesLess x x = false
  | [] => rfl
  | a :: x => by simp [Op.bytesLess, bl_irrefl x]

theorem bl_trans : ∀ x y z : List UInt8, Op.bytesLess x y = true → Op.bytesLess y z = true → Op.bytesLess x z = true
  | x, [], z, h, _ => by cases x <;> simp [Op.bytesLess] at h
  | x, b :: y, [], _, h => by simp [Op.bytesLess] at h
  | [], b :: y, c :: z, _, _ => rfl
  | a :: x, b :: y, c :: z, h1, h2 => by
    simp only [Op.bytesLess, Bool.or_eq_true, Bool.and_eq_true, decide_eq_true_eq, beq_iff_eq] at *
    rcases h1 with h1 | ⟨rfl, h1⟩
    · rcases h2 with h2 | ⟨rfl, h2⟩
      · exact .inl (UInt8.lt_trans h1 h2)
      · exact .inl h1
    · rcases h2 with h2 | ⟨rfl, h2⟩
      · exact .inl h2
      · exact .inr ⟨rfl, bl_trans x y z h1 h2⟩

theorem bl_tri : ∀ x y : List UInt8, Op.bytesLess x y = true ∨ x = y ∨ Op.bytesLess y x = true
  | [], [] => .inr (.inl rfl)
  | [], _ :: _ => .inl rfl
  | _ :: _, [] => .inr (.inr rfl)
  | a :: x, b :: y => by
    simp only [Op.bytesLess, Bool.or_eq_true, Bool.and_eq_true, decide_eq_true_eq, beq_iff_eq, List.cons.injEq]
    have tri : a < b ∨ a = b ∨ b < a := by
      rcases Nat.lt_trichotomy a.toNat b.toNat with h | h | h
      · exact .inl h
      · exact .inr (.inl (UInt8.toNat_inj.1 h))
      · exact .inr (.inr h)
    rcases tri with h | rfl | h
    · exact .inl (.inl h)
    · rcases bl_tri x y with h | rfl | h
      · exact .inl (.inr ⟨rfl, h⟩)
      · exact .inr (.inl ⟨rfl, rfl⟩)
      · exact .inr (.inr (.inr ⟨rfl, h⟩))
    · exact .inr (.inr (.inl h))

theorem bl_asymm (x y : List UInt8) (h : Op.bytesLess x y = true) : Op.bytesLess y x = false := by
  cases h' : Op.bytesLess y x with
  | false => rfl
  | true => have := bl_trans x y x h h'; rw [bl_irrefl] at this; cases this

theorem cmpS_cases (x y : List UInt8) : (Op.bytesLess x y = true ∧ cmpS x y = -1) ∨ (x = y ∧ cmpS x y = 0) ∨ (Op.bytesLess y x = true ∧ cmpS x y = 1) := by
  rcases bl_tri x y with h | rfl | h
  · exact .inl ⟨h, by simp [cmpS, h]⟩
  · exact .inr (.inl ⟨rfl, by simp [cmpS, bl_irrefl]⟩)
  · refine .inr (.inr ⟨h, ?_⟩)
    have h1 := bl_asymm _ _ h
    have h2 : x ≠ y := by rintro rfl; rw [bl_irrefl] at h; cases h
    simp [cmpS, h1, h2]

theorem cmpS_le (x y : List UInt8) : cmpS x y ≤ 0 ↔ Op.bytesLess x y = true ∨ x = y := by
  rcases cmpS_cases x y with ⟨h, e⟩ | ⟨h, e⟩ | ⟨h, e⟩
  · rw [e]; exact ⟨fun _ => .inl h, fun _ => by omega⟩
  · rw [e]; exact ⟨fun _ => .inr h, fun _ => by omega⟩
  · rw [e]
    refine ⟨fun h => by omega, fun h' => ?_⟩
    rcases h' with h' | rfl
    · rw [bl_asymm _ _ h] at h'; cases h'
    · rw [bl_irrefl] at h; cases h

theorem cmpS_ordr : Ordr (fun _ => True) cmpS := by
  refine ⟨?_, ?_, ?_, ?_⟩
  · intro a b _ _; rcases cmpS_cases a b with ⟨_, e⟩ | ⟨_, e⟩ | ⟨_, e⟩ <;> omega
  · intro a b _ _
    rcases cmpS_cases a b with ⟨h, e⟩ | ⟨rfl, e⟩ | ⟨h, e⟩
    · rcases cmpS_cases b a with ⟨h', e'⟩ | ⟨rfl, e'⟩ | ⟨h', e'⟩
      · rw [bl_asymm _ _ h] at h'; cases h'
      · rw [bl_irrefl] at h; cases h
      · omega
    · omega
    · rcases cmpS_cases b a with ⟨h', e'⟩ | ⟨rfl, e'⟩ | ⟨h', e'⟩
      · omega
      · rw [bl_irrefl] at h; cases h
      · rw [bl_asymm _ _ h] at h'; cases h'
  · intro a b _ _
    rcases cmpS_cases a b with ⟨h, e⟩ | ⟨rfl, e⟩ | ⟨h, e⟩
    · rw [e]; refine ⟨fun h => by omega, ?_⟩; rintro rfl; rw [bl_irrefl] at h; cases h
    · simp [e]
    · rw [e]; refine ⟨fun h => by omega, ?_⟩; rintro rfl; rw [bl_irrefl] at h; cases h
  · intro a b c _ _ _ h1 h2
    rw [cmpS_le] at *
    rcases h1 with h1 | rfl
    · rcases h2 with h2 | rfl
      · exact .inl (bl_trans _ _ _ h1 h2)
      · exact .inl h1
    · exact h2

theorem Ordr.weaken {α : Type} {P Q : α → Prop} {f : α → α → Int} (h : Ordr P f) (hq : ∀ a, Q a → P a) : Ordr Q f :=
  ⟨fun a b ha hb => h.rng a b (hq a ha) (hq b hb), fun a b ha hb => h.anti a b (hq a ha) (hq b hb), fun a b ha hb => h.zero a b (hq a ha) (hq b hb), fun a b c ha hb hc => h.trans a b c (hq a ha) (hq b hb) (hq c hc)⟩

theorem Ordr.refl {α : Type} {P : α → Prop} {f : α → α → Int} (h : Ordr P f) (a : α) (ha : P a) : f a a = 0 := (h.zero a a ha ha).2 rfl

/-- Strictly, then not strictly. -/
theorem Ordr.lt_le {α : Type} {P : α → Prop} {f : α → α → Int} (h : Ordr P f) {a b c : α} (ha : P a) (hb : P b) (hc : P c) (h1 : f a b < 0) (h2 : f b c ≤ 0) : f a c < 0 := by
  have h3 := h.trans a b c ha hb hc (by omega) h2
  rcases Int.lt_or_eq_of_le h3 with h4 | h4
  · exact h4
  · have := (h.zero a c ha hc).1 h4
    subst this
    have := h.anti a b ha hb
    omega

theorem Ordr.le_lt {α : Type} {P : α → Prop} {f : α → α → Int} (h : Ordr P f) {a b c : α} (ha : P a) (hb : P b) (hc : P c) (h1 : f a b ≤ 0) (h2 : f b c < 0) : f a c < 0 := by
  have h3 := h.trans a b c ha hb hc h1 (by omega)
  rcases Int.lt_or_eq_of_le h3 with h4 | h4
  · exact h4
  · have := (h.zero a c ha hc).1 h4
    subst this
    have := h.anti a b ha hb
    omega

theorem lexBy_ordr {α : Type} {P : α → Prop} {f : α → α → Int} (h : Ordr P f) : Ordr (fun l => ∀ x ∈ l, P x) (lexBy f) := by
  refine ⟨?_, ?_, ?_, ?_⟩
  · intro a
    induction a with
    | nil => intro b _ _; cases b <;> simp [lexBy]
    | cons x xs ih =>
      intro b ha hb
      cases b with
      | nil => simp [lexBy]
      | cons y ys =>
        simp only [lexBy]
        split
        · exact ih ys (fun z hz => ha z (List.mem_cons_of_mem _ hz)) (fun z hz => hb z (List.mem_cons_of_mem _ hz))
        · exact h.rng x y (ha x (List.mem_cons_self ..)) (hb y (List.mem_cons_self ..))
  · intro a
    induction a with
    | nil => intro b _ _; cases b <;> simp [lexBy]
    | cons x xs ih =>
      intro b ha hb
      cases b with
      | nil => simp [lexBy]
      | cons y ys =>
        have hx := h.anti x y (ha x (List.mem_cons_self ..)) (hb y (List.mem_cons_self ..))
        have := ih ys (fun z hz => ha z (List.mem_cons_of_mem _ hz)) (fun z hz => hb z (List.mem_cons_of_mem _ hz))
        simp only [lexBy]
        split <;> split <;> omega
  · intro a
    induction a with
    | nil => intro b _ _; cases b <;> simp [lexBy]
    | cons x xs ih =>
      intro b ha hb
      cases b with
      | nil => simp [lexBy]
      | cons y ys =>
        have hx := h.zero x y (ha x (List.mem_cons_self ..)) (hb y (List.mem_cons_self ..))
        have := ih ys (fun z hz => ha z (List.mem_cons_of_mem _ hz)) (fun z hz => hb z (List.mem_cons_of_mem _ hz))
        simp only [lexBy, List.cons.injEq]
        split
        · rename_i h0; rw [this, hx.1 h0]; simp
        · rename_i h0
          refine ⟨fun h => absurd h h0, fun h => absurd (hx.2 h.1) h0⟩
  · intro a
    induction a with
    | nil => intro b c _ _ _ _ _; cases c <;> simp [lexBy]
    | cons x xs ih =>
      intro b c ha hb hc h1 h2
      cases b with
      | nil => simp [lexBy] at h1
      | cons y ys =>
        cases c with
        | nil => simp [lexBy] at h2
        | cons z zs =>
          have px := ha x (List.mem_cons_self ..)
          have py := hb y (List.mem_cons_self ..)
          have pz := hc z (List.mem_cons_self ..)
          simp only [lexBy] at *
          by_cases e1 : f x y = 0
          · rw [if_pos e1] at h1
            have := (h.zero x y px py).1 e1
            subst this
            by_cases e2 : f x z = 0
            · rw [if_pos e2] at h2 ⊢
              exact ih ys zs (fun z hz => ha z (List.mem_cons_of_mem _ hz)) (fun z hz => hb z (List.mem_cons_of_mem _ hz)) (fun z hz => hc z (List.mem_cons_of_mem _ hz)) h1 h2
            · rw [if_neg e2] at h2 ⊢; exact h2
          · rw [if_neg e1] at h1
            have h1' : f x y < 0 := by omega
            have h2' : f y z ≤ 0 := by
              by_cases e2 : f y z = 0
              · omega
              · rw [if_neg e2] at h2; exact h2
            have := h.lt_le px py pz h1' h2'
            rw [if_neg (by omega)]
            omega

/-! ## numbers -/

theorem sizeN_rng (a b : Nd) : -1 ≤ sizeN a b ∧ sizeN a b ≤ 1 := by
  unfold sizeN
  split
  · exact cmpI_ordr.rng _ _ trivial trivial
  · split
    · exact cmpS_ordr.rng _ _ trivial trivial
    · exact cmpI_ordr.rng _ _ trivial trivial

theorem sizeN_anti (a b : Nd) : sizeN b a = - sizeN a b := by
  unfold sizeN
  have h1 := cmpI_ordr.anti a.s.length b.s.length trivial trivial
  have h2 := cmpI_ordr.anti (a.s.length + a.e) (b.s.length + b.e) trivial trivial
  have h3 := cmpS_ordr.anti a.s b.s trivial trivial
  rw [h1, h2, h3]
  by_cases ha : a.s = [] <;> by_cases hb : b.s = [] <;> simp only [ha, hb, or_true, true_or, or_self, if_true, if_false]
  split <;> split <;> omega

theorem cmpI_le (x y : Int) : cmpI x y ≤ 0 ↔ x ≤ y := by
  unfold cmpI; split
  · exact ⟨fun _ => by omega, fun _ => by omega⟩
  · split
    · exact ⟨fun _ => by omega, fun _ => by omega⟩
    · exact ⟨fun _ => by omega, fun _ => by omega⟩

theorem sizeN_trans (a b c : Nd) (h1 : sizeN a b ≤ 0) (h2 : sizeN b c ≤ 0) : sizeN a c ≤ 0 := by
  have hl : ∀ x : Nd, x.s ≠ [] → 0 < x.s.length := fun x h => List.length_pos_iff.2 h
  unfold sizeN at *
  by_cases ha : a.s = []
  · rw [if_pos (.inl ha), cmpI_le, ha]; simp
  by_cases hb : b.s = []
  · rw [if_pos (.inr hb), cmpI_le, hb] at h1
    have := hl a ha
    simp only [List.length_nil] at h1; omega
  by_cases hc : c.s = []
  · rw [if_pos (.inr hc), cmpI_le, hc] at h2
    have := hl b hb
    simp only [List.length_nil] at h2; omega
  rw [if_neg (by simp [ha, hb])] at h1
  rw [if_neg (by simp [hb, hc])] at h2
  rw [if_neg (by simp [ha, hc])]
  by_cases e1 : cmpI (a.s.length + a.e) (b.s.length + b.e) = 0
  · rw [if_pos e1] at h1
    have e1' := (cmpI_ordr.zero _ _ trivial trivial).1 e1
    rw [e1']
    by_cases e2 : cmpI (b.s.length + b.e) (c.s.length + c.e) = 0
    · rw [if_pos e2] at h2 ⊢
      exact cmpS_ordr.trans _ _ _ trivial trivial trivial h1 h2
    · rw [if_neg e2] at h2 ⊢; exact h2
  · rw [if_neg e1] at h1
    have h1' : cmpI (a.s.length + a.e) (b.s.length + b.e) < 0 := by omega
    have h2' : cmpI (b.s.length + b.e) (c.s.length + c.e) ≤ 0 := by
      by_cases e2 : cmpI (b.s.length + b.e) (c.s.length + c.e) = 0
      · omega
      · rw [if_neg e2] at h2; exact h2
    have := cmpI_ordr.lt_le (c := (c.s.length + c.e : Int)) trivial trivial trivial h1' h2'
    rw [if_neg (by omega)]
    omega

theorem sizeN_zero (a b : Nd) (ha : a.s = [] → a.e = 0) (hb : b.s = [] → b.e = 0) : sizeN a b = 0 ↔ a.s = b.s ∧ a.e = b.e := by
  have hl : ∀ x : Nd, x.s ≠ [] → 0 < x.s.length := fun x h => List.length_pos_iff.2 h
  unfold sizeN
  by_cases h1 : a.s = []
  · rw [if_pos (.inl h1), cmpI_ordr.zero _ _ trivial trivial]
    by_cases h2 : b.s = []
    · rw [h1, h2, ha h1, hb h2]; simp
    · have := hl b h2
      rw [h1]
      refine ⟨fun h => by simp only [List.length_nil] at h; omega, fun h => absurd h.1.symm h2⟩
  · by_cases h2 : b.s = []
    · rw [if_pos (.inr h2), cmpI_ordr.zero _ _ trivial trivial]
      have := hl a h1
      rw [h2]
      refine ⟨fun h => by simp only [List.length_nil] at h; omega, fun h => absurd h.1 h1⟩
    · rw [if_neg (by simp [h1, h2])]
      by_cases e1 : cmpI (a.s.length + a.e) (b.s.length + b.e) = 0
      · rw [if_pos e1, cmpS_ordr.zero _ _ trivial trivial]
        have e1' := (cmpI_ordr.zero _ _ trivial trivial).1 e1
        refine ⟨fun h => ⟨h, ?_⟩, fun h => h.1⟩
        rw [h] at e1'; omega
      · rw [if_neg e1]
        refine ⟨fun h => absurd h e1, fun h => ?_⟩
        rw [h.1, h.2, cmpI_ordr.refl _ trivial]

/-- A right number, whose name is nothing. -/
def NumP (n : Nd) : Prop := n.kind = 3 ∧ n.name = [] ∧ numB n = true

theorem numB_nil {n : Nd} (h : numB n = true) (hs : n.s = []) : n.neg = false ∧ n.e = 0 := by
  simp only [numB, hs, if_true, Bool.and_eq_true, Bool.not_eq_true', beq_iff_eq] at h
  exact h.2

theorem numB_many {n : Nd} (h : numB n = true) : n.many = 0 := by
  simp only [numB, Bool.and_eq_true, beq_iff_eq] at h
  exact h.1.1.1.1.1.1

theorem numN_ordr : Ordr NumP numN := by
  refine ⟨?_, ?_, ?_, ?_⟩
  · intro a b _ _
    unfold numN
    have h1 := sizeN_rng a b
    have h2 := sizeN_rng b a
    split
    · omega
    · split
      · omega
      · split <;> omega
  · intro a b _ _
    have h1 := sizeN_anti a b
    have h2 := sizeN_anti b a
    unfold numN
    cases a.neg <;> cases b.neg <;> simp <;> omega
  · intro a b ha hb
    have h1 := sizeN_zero a b (fun h => (numB_nil ha.2.2 h).2) (fun h => (numB_nil hb.2.2 h).2)
    have h2 := sizeN_zero b a (fun h => (numB_nil hb.2.2 h).2) (fun h => (numB_nil ha.2.2 h).2)
    have key : a = b ↔ a.neg = b.neg ∧ a.s = b.s ∧ a.e = b.e := by
      constructor
      · rintro rfl; exact ⟨rfl, rfl, rfl⟩
      · rintro ⟨e1, e2, e3⟩
        have m1 := numB_many ha.2.2
        have m2 := numB_many hb.2.2
        obtain ⟨k1, n1, _⟩ := ha
        obtain ⟨k2, n2, _⟩ := hb
        cases a; cases b
        simp only at *
        subst e1 e2 e3 k1 n1 m1 k2 n2 m2
        rfl
    rw [key]
    unfold numN
    cases hn : a.neg <;> cases hm : b.neg <;> simp
    · exact h1
    · rw [h2]; exact ⟨fun h => ⟨h.1.symm, h.2.symm⟩, fun h => ⟨h.1.symm, h.2.symm⟩⟩
  · intro a b c _ _ _
    have h1 := sizeN_trans a b c
    have h2 := sizeN_trans c b a
    unfold numN
    cases a.neg <;> cases b.neg <;> cases c.neg <;> simp
    · exact h1
    · exact fun x y => h2 y x

/-! ## values -/

theorem cmpW_ordr : ∀ f : Nat, Ordr (fun v => v.length ≤ f ∧ Rt v) (cmpV f)
  | 0 => by
    have hno : ∀ v : Vl, ¬ (v.length ≤ 0 ∧ Rt v) := by
      rintro v ⟨h1, h2⟩
      have := h2.one.ne
      cases v <;> simp at h1 this
    exact ⟨fun a _ ha => absurd ha (hno a), fun a _ ha => absurd ha (hno a), fun a _ ha => absurd ha (hno a), fun a _ _ ha => absurd ha (hno a)⟩
  | f + 1 => by
    have ih := cmpW_ordr f
    have ihl := lexBy_ordr ih
    have ihs := lexBy_ordr cmpS_ordr
    -- what a right value is made of
    have view : ∀ v : Vl, v.length ≤ f + 1 ∧ Rt v → ∃ n r, v = n :: r ∧ n.name = [] ∧ plainB n = true ∧ (∀ x ∈ partsOf n r, x.length ≤ f ∧ Rt x) ∧ (n.kind = 3 → r = []) := by
      rintro v ⟨hl, hr⟩
      obtain ⟨n, r, rfl, hn⟩ := nameOf_nil hr.name hr.one.ne
      obtain ⟨h1, h2, ps, h3, h4, h5, h6, h7⟩ := hr.parts
      refine ⟨n, r, rfl, hn, h1, ?_, ?_⟩
      · intro x hx
        rw [(partsOf_eq h3).1] at hx
        obtain ⟨p, hp, rfl⟩ := List.mem_map.1 hx
        have := flatten_len_mem hp
        rw [h4] at this
        simp only [List.length_cons] at hl
        exact ⟨by rw [clr_length]; omega, h7 p hp⟩
      · intro hk
        have : n.many = 0 := by
          rw [plainB, if_neg (by omega), if_pos hk] at h1
          exact numB_many h1
        rw [this] at h3
        simp [parts] at h3
        subst h3
        simpa using h4.symm
    have hnum : ∀ n : Nd, n.name = [] → plainB n = true → n.kind = 3 → NumP n := by
      intro n h1 h2 h3
      rw [plainB, if_neg (by omega), if_pos h3] at h2
      exact ⟨h3, h1, h2⟩
    have T : ∀ l : List (List UInt8), ∀ x ∈ l, True := fun _ _ _ => trivial
    refine ⟨?_, ?_, ?_, ?_⟩
    · intro a b ha hb
      obtain ⟨n, r, rfl, n1, n2, n3, _⟩ := view a ha
      obtain ⟨m, q, rfl, m1, m2, m3, _⟩ := view b hb
      simp only [cmpV, cmpW]
      split
      · exact cmpI_ordr.rng _ _ trivial trivial
      rename_i hk
      have hk : n.kind = m.kind := Decidable.of_not_not hk
      split
      · rename_i h3; exact numN_ordr.rng n m (hnum n n1 n2 h3) (hnum m m1 m2 (hk ▸ h3))
      split
      · exact cmpS_ordr.rng _ _ trivial trivial
      split
      · exact ihl.rng _ _ n3 m3
      split
      · split
        · exact ihl.rng _ _ n3 m3
        · exact ihs.rng _ _ (T _) (T _)
      · omega
    · intro a b ha hb
      obtain ⟨n, r, rfl, n1, n2, n3, _⟩ := view a ha
      obtain ⟨m, q, rfl, m1, m2, m3, _⟩ := view b hb
      simp only [cmpV, cmpW]
      by_cases hk : n.kind = m.kind
      · have e1 := ihl.anti _ _ n3 m3
        have e2 := ihs.anti _ _ (T (labsOf n r)) (T (labsOf m q))
        have z : (n.kind ≠ n.kind) = False := by simp
        simp only [← hk, z, if_false]
        by_cases h3 : n.kind = 3
        · simp only [if_pos h3]; exact numN_ordr.anti n m (hnum n n1 n2 h3) (hnum m m1 m2 (hk ▸ h3))
        simp only [if_neg h3]
        by_cases h4 : n.kind = 4
        · simp only [if_pos h4]; exact cmpS_ordr.anti _ _ trivial trivial
        simp only [if_neg h4]
        by_cases h5 : n.kind = 5
        · simp only [if_pos h5]; exact e1
        simp only [if_neg h5]
        by_cases h6 : n.kind = 6
        · simp only [if_pos h6]
          by_cases h : lexBy cmpS (labsOf n r) (labsOf m q) = 0
          · rw [if_pos h, if_pos (by omega)]; exact e1
          · rw [if_neg h, if_neg (by omega)]; exact e2
        · simp only [if_neg h6]; omega
      · rw [if_pos hk, if_pos (Ne.symm hk)]
        exact cmpI_ordr.anti _ _ trivial trivial
    · intro a b ha hb
      obtain ⟨n, r, rfl, n1, n2, n3, n4⟩ := view a ha
      obtain ⟨m, q, rfl, m1, m2, m3, m4⟩ := view b hb
      constructor
      rotate_left 1
      · intro h
        obtain ⟨rfl, rfl⟩ := List.cons.inj h
        simp only [cmpV, cmpW, ne_eq, not_true, if_false]
        have e1 := ihl.refl _ n3
        have e2 := ihs.refl _ (T (labsOf n r))
        split
        · rename_i h3; exact numN_ordr.refl n (hnum n n1 n2 h3)
        split
        · exact cmpS_ordr.refl _ trivial
        split
        · exact e1
        split
        · exact e1
        · rfl
      · intro h
        simp only [cmpV, cmpW] at h
        by_cases hk : n.kind = m.kind
        rotate_left 1
        · rw [if_pos hk, cmpI_ordr.zero _ _ trivial trivial] at h
          exact absurd h hk
        rw [if_neg (by simp [hk])] at h
        obtain ⟨_, nm, ps, p1, p2, p3, p4, p5⟩ := ha.2.parts
        obtain ⟨_, mm, qs, q1, q2, q3, q4, q5⟩ := hb.2.parts
        have P := partsOf_eq p1
        have Q := partsOf_eq q1
        have ne1 : ∀ p ∈ ps, p ≠ [] := fun p hp => (p4 p hp).ne
        have ne2 : ∀ p ∈ qs, p ≠ [] := fun p hp => (q4 p hp).ne
        -- a kind without parts: nothing behind
        have nopart : n.many = 0 → m.many = 0 → r = q := by
          intro h1 h2
          rw [h1] at p1; rw [h2] at q1
          simp [parts] at p1 q1
          subst p1; subst q1
          rw [← p2, ← q2]
        -- the same parts
        have same : ps = qs → r = q ∧ n.many = m.many := by
          intro e
          refine ⟨by rw [← p2, ← q2, e], ?_⟩
          have l1 := parts_len _ _ _ p1
          have l2 := parts_len _ _ _ q1
          rw [e] at l1
          omega
        by_cases h3 : n.kind = 3
        · rw [if_pos h3] at h
          have := (numN_ordr.zero n m (hnum n n1 n2 h3) (hnum m m1 m2 (hk ▸ h3))).1 h
          rw [this, n4 h3, m4 (hk ▸ h3)]
        rw [if_neg h3] at h
        by_cases h4 : n.kind = 4
        · rw [if_pos h4, cmpS_ordr.zero _ _ trivial trivial] at h
          have h4' := hk ▸ h4
          rw [plainB, if_neg (by omega), if_neg h3, if_pos h4] at n2
          rw [plainB, if_neg (by omega), if_neg (hk ▸ h3), if_pos h4'] at m2
          simp only [Bool.and_eq_true, beq_iff_eq, Bool.not_eq_true'] at n2 m2
          have e1 := nopart n2.1.1.2 m2.1.1.2
          have : n = m := by
            cases n; cases m; simp only at *
            obtain ⟨⟨⟨_, rfl⟩, rfl⟩, rfl⟩ := n2
            obtain ⟨⟨⟨_, rfl⟩, rfl⟩, rfl⟩ := m2
            subst hk n1 m1 h
            rfl
          rw [this, e1]
        rw [if_neg h4] at h
        -- kinds with parts
        have comb : n.kind = 5 ∨ n.kind = 6 → ps = qs → n :: r = m :: q := by
          intro h56 e
          obtain ⟨e1, e2⟩ := same e
          rw [plainB, if_neg (by omega), if_neg h3, if_neg h4, if_pos h56] at n2
          rw [plainB, if_neg (by omega), if_neg (hk ▸ h3), if_neg (hk ▸ h4), if_pos (hk ▸ h56)] at m2
          simp only [Bool.and_eq_true, beq_iff_eq, Bool.not_eq_true', decide_eq_true_eq] at n2 m2
          have : n = m := by
            cases n; cases m; simp only at *
            obtain ⟨⟨⟨_, rfl⟩, rfl⟩, rfl⟩ := n2
            obtain ⟨⟨⟨_, rfl⟩, rfl⟩, rfl⟩ := m2
            subst hk n1 m1 e2
            rfl
          rw [this, e1]
        by_cases h5 : n.kind = 5
        · rw [if_pos h5, ihl.zero _ _ n3 m3, P.1, Q.1] at h
          refine comb (.inl h5) (clr_names ps qs ne1 ne2 h ?_)
          rw [risB_arr ps (h5 ▸ p3), risB_arr qs (by rw [← h5, hk]; exact q3)]
          have hl := congrArg List.length h
          simp only [List.length_map] at hl
          exact List.ext_getElem (by simpa using hl) (by simp)
        rw [if_neg h5] at h
        by_cases h6 : n.kind = 6
        · rw [if_pos h6] at h
          by_cases e : lexBy cmpS (labsOf n r) (labsOf m q) = 0
          · rw [if_pos e, ihl.zero _ _ n3 m3, P.1, Q.1] at h
            rw [ihs.zero _ _ (T _) (T _), P.2, Q.2] at e
            exact comb (.inr h6) (clr_names ps qs ne1 ne2 h e)
          · rw [if_neg e] at h; exact absurd h e
        · have h012 : n.kind = 0 ∨ n.kind = 1 ∨ n.kind = 2 := by
            by_cases h0 : n.kind = 0 ∨ n.kind = 1 ∨ n.kind = 2
            · exact h0
            · rw [plainB, if_neg h0, if_neg h3, if_neg h4, if_neg (by omega)] at n2
              cases n2
          rw [plainB, if_pos h012] at n2
          rw [plainB, if_pos (hk ▸ h012)] at m2
          simp only [Bool.and_eq_true, beq_iff_eq, Bool.not_eq_true'] at n2 m2
          have e1 := nopart n2.1.1.1 m2.1.1.1
          have : n = m := by
            cases n; cases m; simp only at *
            obtain ⟨⟨⟨rfl, rfl⟩, rfl⟩, rfl⟩ := n2
            obtain ⟨⟨⟨rfl, rfl⟩, rfl⟩, rfl⟩ := m2
            subst hk n1 m1
            rfl
          rw [this, e1]
    · intro a b c ha hb hc
      obtain ⟨n, r, rfl, n1, n2, n3, n4⟩ := view a ha
      obtain ⟨m, q, rfl, m1, m2, m3, m4⟩ := view b hb
      obtain ⟨l, s, rfl, l1, l2, l3, l4⟩ := view c hc
      simp only [cmpV, cmpW]
      intro h1 h2
      by_cases hk : n.kind = m.kind
      · rw [if_neg (by simp [hk])] at h1
        by_cases hj : m.kind = l.kind
        · rw [if_neg (by simp [hj])] at h2
          rw [if_neg (by simp [hk, hj])]
          have hnl : n.kind = l.kind := hk.trans hj
          rw [← hk] at h2
          by_cases h3 : n.kind = 3
          · rw [if_pos h3] at h1 h2 ⊢
            exact numN_ordr.trans n m l (hnum n n1 n2 h3) (hnum m m1 m2 (hk ▸ h3)) (hnum l l1 l2 (hnl ▸ h3)) h1 h2
          rw [if_neg h3] at h1 h2 ⊢
          by_cases h4 : n.kind = 4
          · rw [if_pos h4] at h1 h2 ⊢
            exact cmpS_ordr.trans _ _ _ trivial trivial trivial h1 h2
          rw [if_neg h4] at h1 h2 ⊢
          by_cases h5 : n.kind = 5
          · rw [if_pos h5] at h1 h2 ⊢
            exact ihl.trans _ _ _ n3 m3 l3 h1 h2
          rw [if_neg h5] at h1 h2 ⊢
          by_cases h6 : n.kind = 6
          · rw [if_pos h6] at h1 h2 ⊢
            by_cases e1 : lexBy cmpS (labsOf n r) (labsOf m q) = 0
            · rw [if_pos e1] at h1
              rw [(ihs.zero _ _ (T _) (T _)).1 e1]
              by_cases e2 : lexBy cmpS (labsOf m q) (labsOf l s) = 0
              · rw [if_pos e2] at h2 ⊢
                exact ihl.trans _ _ _ n3 m3 l3 h1 h2
              · rw [if_neg e2] at h2 ⊢; exact h2
            · rw [if_neg e1] at h1
              have h1' : lexBy cmpS (labsOf n r) (labsOf m q) < 0 := by omega
              have h2' : lexBy cmpS (labsOf m q) (labsOf l s) ≤ 0 := by
                by_cases e2 : lexBy cmpS (labsOf m q) (labsOf l s) = 0
                · omega
                · rw [if_neg e2] at h2; exact h2
              have := ihs.lt_le (T _) (T _) (T _) h1' h2'
              rw [if_neg (by omega)]
              omega
          · rw [if_neg h6]; omega
        · rw [if_pos hj] at h2
          rw [if_pos (by rw [hk]; exact hj), hk]; exact h2
      · rw [if_pos hk, cmpI_le] at h1
        by_cases hj : m.kind = l.kind
        · rw [if_pos (by rw [← hj]; exact hk), cmpI_le, ← hj]; exact h1
        · rw [if_pos hj, cmpI_le] at h2
          rw [if_pos (by omega), cmpI_le]; omega

/-- Fuel above the length is none of the answer. -/
theorem lexBy_congr {α : Type} {f g : α → α → Int} : ∀ (a b : List α), (∀ x ∈ a, ∀ y ∈ b, f x y = g x y) → lexBy f a b = lexBy g a b
  | [], [], _ => rfl
  | [], _ :: _, _ => rfl
  | _ :: _, [], _ => rfl
  | x :: xs, y :: ys, h => by
    simp only [lexBy, h x (List.mem_cons_self ..) y (List.mem_cons_self ..), lexBy_congr xs ys fun a ha b hb => h a (List.mem_cons_of_mem _ ha) b (List.mem_cons_of_mem _ hb)]

theorem partsOf_len {n : Nd} {r : Vl} (h : Rt (n :: r)) : ∀ x ∈ partsOf n r, x.length ≤ r.length ∧ Rt x := by
  obtain ⟨_, _, ps, h3, h4, h5, h6, h7⟩ := h.parts
  intro x hx
  rw [(partsOf_eq h3).1] at hx
  obtain ⟨p, hp, rfl⟩ := List.mem_map.1 hx
  have := flatten_len_mem hp
  rw [h4] at this
  exact ⟨by rw [clr_length]; omega, h7 p hp⟩

theorem cmpW_fuel (num : Nd → Nd → Int) : ∀ (f g : Nat) (a b : Vl), a.length ≤ f → a.length ≤ g → Rt a → Rt b → cmpW num f a b = cmpW num g a b
  | 0, _, a, b, h, _, ha, _ => by have := ha.one.ne; cases a <;> simp at h this
  | f + 1, 0, a, b, _, h, ha, _ => by have := ha.one.ne; cases a <;> simp at h this
  | f + 1, g + 1, [], b, _, _, _, _ => by simp [cmpW]
  | f + 1, g + 1, n :: r, [], _, _, _, _ => by simp [cmpW]
  | f + 1, g + 1, n :: r, m :: q, h1, h2, ha, hb => by
    have hp := partsOf_len ha
    have hq := partsOf_len hb
    have e : lexBy (cmpW num f) (partsOf n r) (partsOf m q) = lexBy (cmpW num g) (partsOf n r) (partsOf m q) := by
      refine lexBy_congr _ _ fun x hx y hy => ?_
      simp only [List.length_cons] at h1 h2
      have := (hp x hx).1
      exact cmpW_fuel num f g x y (by omega) (by omega) (hp x hx).2 (hq y hy).2
    simp only [cmpW, e]

end Lp

/-! LpU -/

namespace Lp
open Go

def encN (n : Nd) : PV := .agg [.int .i64 n.kind, .int .i64 n.many, .str n.name, .str n.s, .bool n.neg, .int .i64 n.e]
def encV (v : Vl) : PV := .sl 6 (v.map encN) none

end Lp

/-! LpI1 -/

set_option maxRecDepth 100000
namespace Lp
open Go Go.Proofs
def t___ : TypeId := 0
def t_func__ : TypeId := 1
def t_int64 : TypeId := 2
def t_int : TypeId := 3
def t_bool : TypeId := 4
def t_uint8 : TypeId := 5
def t_abi_BoundsErrorCode : TypeId := 6
def t_struct___x_int64__y_int__signed_bool__code_abi_BoundsErrorCode__ : TypeId := 7
def t_runtime_boundsError : TypeId := 8
def t_string : TypeId := 9
def t_runtime_errorString : TypeId := 10
def t_runtime_plainError : TypeId := 11
def t_uintptr : TypeId := 12
def t_struct___msg_string__addr_uintptr__ : TypeId := 13
def t_runtime_errorAddressString : TypeId := 14
def t_P_runtime_TypeAssertionError : TypeId := 15
def t_P_runtime_PanicNilError : TypeId := 16
def t_P_abi_Type : TypeId := 17
def t_struct___typ_P_abi_Type__ : TypeId := 18
def t_maps_unhashableTypeError : TypeId := 19
def t_interface___ : TypeId := 20
def t_int32 : TypeId := 21
def t_L_string : TypeId := 22
def t_L_api_Val : TypeId := 23
def t_func_L_api_Val__int__bool : TypeId := 24
def t_func___bool : TypeId := 25
def t_L_api_Node : TypeId := 26
def t_api_Val : TypeId := 27
def t_api_Errno : TypeId := 28
def t__api_Val__api_Errno_ : TypeId := 29
def t_func_L_string__L_api_Val___api_Val__api_Errno_ : TypeId := 30
def t_func_api_Val__api_Val__bool : TypeId := 31
def t_func_L_api_Val__api_Val : TypeId := 32
def t_func_L_string__L_api_Val__bool : TypeId := 33
def t_func_api_Val__L_api_Val : TypeId := 34
def t_func_api_Val__bool : TypeId := 35
def t_func_api_Val__int : TypeId := 36
def t_func_L_api_Val__L_api_Val__bool : TypeId := 37
def t_func_L_string__L_string__bool : TypeId := 38
def t_func_api_Val__L_string : TypeId := 39
def t_func_api_Val__int__bool : TypeId := 40
def t_struct___Kind_int__Many_int__Name_string__S_string__Neg_bool__E_int__ : TypeId := 41
def t_api_Node : TypeId := 42
def t_func_api_Val__L_api_Val__bool : TypeId := 43
def t__api_Val__bool_ : TypeId := 44
def t_func_api_Val__string___api_Val__bool_ : TypeId := 45
def t_map_string_api_Val : TypeId := 46
def t_func_string__bool : TypeId := 47
def t_func_iter_Seq_string___L_string : TypeId := 48
def t_func_func_string__bool_ : TypeId := 49
def t_iter_Seq_string_ : TypeId := 50
def t_func_L_string__iter_Seq_string_ : TypeId := 51
def t_func_L_string__L_api_Val__api_Val : TypeId := 52
def t_L_bool : TypeId := 53
def t_func____api_Val__api_Val : TypeId := 54
def t_func_func_string__api_Val__bool_ : TypeId := 55
def t_iter_Seq2_string_api_Val_ : TypeId := 56
def t_func_api_Val__iter_Seq2_string_api_Val_ : TypeId := 57
def t_func_api_Val__int__int : TypeId := 58
def t_func_api_Node__bool : TypeId := 59
def t_struct___kind_int__left_int__first_bool__last_string__ : TypeId := 60
def t_val_open : TypeId := 61
def t_L_val_open : TypeId := 62
def t_P_val_open : TypeId := 63
def t_func_L_val_open__func_val_open__bool__bool : TypeId := 64
def t_func_val_open__bool : TypeId := 65
def t_func_api_Val__int__int__api_Val : TypeId := 66
def t_func_string__uintptr : TypeId := 67
def t__256_uint8 : TypeId := 68
def t_struct___lo_uint8__hi_uint8__ : TypeId := 69
def t_utf8_acceptRange : TypeId := 70
def t__16_utf8_acceptRange : TypeId := 71
def t_uint : TypeId := 72
def t_func_L_string_ : TypeId := 73
def t_func_string__int__int : TypeId := 74
def t_func_api_Val__int__api_Val : TypeId := 75
def t_func_string__api_Val__bool : TypeId := 76
def t_func_api_Val__api_Val__1 : TypeId := 77
def t_func_L_val_open__func_val_open__bool__int : TypeId := 78
def t_uint64 : TypeId := 79
def t_func_L_string__iter_Seq_string___L_string : TypeId := 80
def t_func_L_string__int__int__int_ : TypeId := 81
def t_func_uint__int : TypeId := 82
def t_func_string__int__bool : TypeId := 83
def t_func_int__int__bool : TypeId := 84
def t_func_string__string__string : TypeId := 85
def t_func_L_string__int__int_ : TypeId := 86
def t_slices_sortedHint : TypeId := 87
def t__int__slices_sortedHint_ : TypeId := 88
def t_func_L_string__int__int___int__slices_sortedHint_ : TypeId := 89
def t_func_L_string__int__int__bool : TypeId := 90
def t_func_string__string__bool : TypeId := 91
def t_func_L_string__int__int__int__int : TypeId := 92
def t__int__bool_ : TypeId := 93
def t_func_L_string__int__int__int___int__bool_ : TypeId := 94
def t_func_uint32__int : TypeId := 95
def t_uint32 : TypeId := 96
def t_func_uint64__int : TypeId := 97
def t_func_string__func_int32__bool__string : TypeId := 98
def t_func_int32__bool : TypeId := 99
def t_func_string__uint8__string : TypeId := 100
def t__256_bool : TypeId := 101
def t_strings_asciiSet : TypeId := 102
def t__strings_asciiSet__bool_ : TypeId := 103
def t_func_string___strings_asciiSet__bool_ : TypeId := 104
def t_func_string__P_strings_asciiSet__string : TypeId := 105
def t_P_strings_asciiSet : TypeId := 106
def t_slices_xorshift : TypeId := 107
def t_func_int__uint : TypeId := 108
def t_func___uint64 : TypeId := 109
def t_func_L_string__int__P_int__int : TypeId := 110
def t_P_int : TypeId := 111
def t_func_L_string__int__int__int__P_int__int : TypeId := 112
def t_func_uint8__bool : TypeId := 113
def t__int32__int_ : TypeId := 114
def t_func_string___int32__int_ : TypeId := 115
def t_func_string__int32__bool : TypeId := 116
def t_P_slices_xorshift : TypeId := 117
def t__int__int_ : TypeId := 118
def t_func_L_string__int__int__P_int___int__int_ : TypeId := 119
def t_func_string__func_int32__bool__bool__int : TypeId := 120
def t_func_string__int32__int : TypeId := 121
def t_func_string__uint8__int : TypeId := 122
def t_func_int__int__1 : TypeId := 123
def t_func_string__string__int : TypeId := 124
def t_func___string : TypeId := 125
def t_struct____interface_P_abi_Type__concrete_P_abi_Type__asserted_P_abi_Type__missingMethod_string__ : TypeId := 126
def t_runtime_TypeAssertionError : TypeId := 127
def t__0_P_runtime_PanicNilError : TypeId := 128
def t_struct______0_P_runtime_PanicNilError__ : TypeId := 129
def t_runtime_PanicNilError : TypeId := 130
def t_func___int : TypeId := 131
def t_abi_TFlag : TypeId := 132
def t_abi_Kind : TypeId := 133
def t_func_unsafe_Pointer__unsafe_Pointer__bool : TypeId := 134
def t_P_uint8 : TypeId := 135
def t_abi_NameOff : TypeId := 136
def t_abi_TypeOff : TypeId := 137
def t_struct___Size__uintptr__PtrBytes_uintptr__Hash_uint32__TFlag_abi_TFlag__Align__uint8__FieldAlign__uint8__Kind__abi_Kind__Equal_func_unsafe_Pointer__unsafe_Pointer__bool__GCData_P_uint8__Str_abi_NameOff__PtrToThis_abi_TypeOff__ : TypeId := 138
def t_abi_Type : TypeId := 139
def t_unsafe_Pointer : TypeId := 140
def f_main_main : FuncId := 0
def f_gosem_cut : FuncId := 1
def f_gosem_cut_init : FuncId := 2
def f_loupelaw02_ValMakes : FuncId := 3
def f_loupelaw02_ValOrder : FuncId := 4
def f_loupelaw02_ValTells : FuncId := 5
def f_loupelaw02_ValBack : FuncId := 6
def f_louperef02_All : FuncId := 7
def f_loupelaw02_alive : FuncId := 8
def f_val_Object : FuncId := 9
def f_louperef02_Object : FuncId := 10
def f_louperef02_Same : FuncId := 11
def f_val_List : FuncId := 12
def f_louperef02_List : FuncId := 13
def f_val_Parts : FuncId := 14
def f_louperef02_Right : FuncId := 15
def f_val_Right : FuncId := 16
def f_val_Same : FuncId := 17
def f_val_Depth : FuncId := 18
def f_louperef02_Depth : FuncId := 19
def f_louperef02_Lists : FuncId := 20
def f_louperef02_Parts : FuncId := 21
def f_louperef02_Texts : FuncId := 22
def f_val_Names : FuncId := 23
def f_louperef02_Names : FuncId := 24
def f_louperef02_Few : FuncId := 25
def f_val_Field : FuncId := 26
def f_unicode_utf8_ValidString : FuncId := 27
def f_slices_Sorted_string_ : FuncId := 28
def f_slices_Values_L_string_string_ : FuncId := 29
def f_val_laid : FuncId := 30
def f_louperef02_Utf : FuncId := 31
def f_louperef02_named : FuncId := 32
def f_slices_Concat_api_Val_api_Node_ : FuncId := 33
def f_val_each : FuncId := 34
def f_louperef02_Next : FuncId := 35
def f_louperef02_plain : FuncId := 36
def f_louperef02_rising : FuncId := 37
def f_val_isPlain : FuncId := 38
def f_slices_ContainsFunc_L_val_open_val_open_ : FuncId := 39
def f_val_Right_1 : FuncId := 40
def f_slices_Equal_api_Val_api_Node_ : FuncId := 41
def f_louperef02_own : FuncId := 42
def f_unicode_utf8_word_string_ : FuncId := 43
def f_slices_Collect_string_ : FuncId := 44
def f_slices_Sort_L_string_string_ : FuncId := 45
def f_slices_Values_L_string_string__1 : FuncId := 46
def f_louperef02_Rune : FuncId := 47
def f_slices_Grow_api_Val_api_Node_ : FuncId := 48
def f_val_each_1 : FuncId := 49
def f_val_behind : FuncId := 50
def f_slices_Clone_api_Val_api_Node_ : FuncId := 51
def f_louperef01_Right : FuncId := 52
def f_num_Right : FuncId := 53
def f_slices_IndexFunc_L_val_open_val_open_ : FuncId := 54
def f_slices_AppendSeq_L_string_string_ : FuncId := 55
def f_slices_pdqsortOrdered_string_ : FuncId := 56
def f_math_bits_Len : FuncId := 57
def f_louperef02_cont : FuncId := 58
def f_louperef01_figures : FuncId := 59
def f_num_isPower : FuncId := 60
def f_num_isFigures : FuncId := 61
def f_strings_Trim : FuncId := 62
def f_slices_insertionSortOrdered_string_ : FuncId := 63
def f_slices_heapSortOrdered_string_ : FuncId := 64
def f_slices_breakPatternsOrdered_string_ : FuncId := 65
def f_slices_choosePivotOrdered_string_ : FuncId := 66
def f_slices_reverseRangeOrdered_string_ : FuncId := 67
def f_slices_partialInsertionSortOrdered_string_ : FuncId := 68
def f_cmp_Less_string_ : FuncId := 69
def f_slices_partitionEqualOrdered_string_ : FuncId := 70
def f_slices_partitionOrdered_string_ : FuncId := 71
def f_math_bits_Len32 : FuncId := 72
def f_math_bits_Len64 : FuncId := 73
def f_strings_TrimFunc : FuncId := 74
def f_num_isFigure : FuncId := 75
def f_strings_trimLeftByte : FuncId := 76
def f_strings_trimRightByte : FuncId := 77
def f_strings_makeASCIISet : FuncId := 78
def f_strings_trimLeftASCII : FuncId := 79
def f_strings_trimRightASCII : FuncId := 80
def f_strings_trimLeftUnicode : FuncId := 81
def f_strings_trimRightUnicode : FuncId := 82
def f_slices_siftDownOrdered_string_ : FuncId := 83
def f_slices_nextPowerOfTwo : FuncId := 84
def f__P_slices_xorshift__Next : FuncId := 85
def f_slices_medianAdjacentOrdered_string_ : FuncId := 86
def f_slices_medianOrdered_string_ : FuncId := 87
def f_cmp_isNaN_string_ : FuncId := 88
def f_strings_TrimRightFunc : FuncId := 89
def f_strings_TrimLeftFunc : FuncId := 90
def f__P_strings_asciiSet__contains : FuncId := 91
def f_unicode_utf8_DecodeRuneInString : FuncId := 92
def f_strings_ContainsRune : FuncId := 93
def f_unicode_utf8_DecodeLastRuneInString : FuncId := 94
def f_slices_order2Ordered_string_ : FuncId := 95
def f_strings_lastIndexFunc : FuncId := 96
def f_strings_indexFunc : FuncId := 97
def f_unicode_utf8_decodeRuneInStringSlow : FuncId := 98
def f_strings_IndexRune : FuncId := 99
def f_unicode_utf8_RuneStart : FuncId := 100
def f_strings_IndexByte : FuncId := 101
def f_unicode_utf8_ValidRune : FuncId := 102
def f_bytealg_Cutover : FuncId := 103
def f_bytealg_IndexString : FuncId := 104
def f_stringslite_IndexByte : FuncId := 105
def f_bytealg_IndexByteString : FuncId := 106
def f__runtime_boundsError__Error : FuncId := 107
def f__runtime_boundsError__RuntimeError : FuncId := 108
def f__runtime_errorString__Error : FuncId := 109
def f__runtime_errorString__RuntimeError : FuncId := 110
def f__runtime_plainError__Error : FuncId := 111
def f__runtime_plainError__RuntimeError : FuncId := 112
def f__runtime_errorAddressString__Error : FuncId := 113
def f__runtime_errorAddressString__RuntimeError : FuncId := 114
def f__P_runtime_TypeAssertionError__Error : FuncId := 115
def f__P_runtime_TypeAssertionError__RuntimeError : FuncId := 116
def f__P_runtime_PanicNilError__Error : FuncId := 117
def f__P_runtime_PanicNilError__RuntimeError : FuncId := 118
def f__P_abi_Type__Align : FuncId := 119
def f__runtime_maps_unhashableTypeError__Error : FuncId := 120
def f__runtime_maps_unhashableTypeError__RuntimeError : FuncId := 121
def f__abi_Kind__String : FuncId := 122
def f_var_s_door__gosem_cut_vars_holds_initialisers_alone__see_the_manifest_s_row_cutvarsword__look_11__test_files_too_ : FuncId := 123
def f_var_s_door__the_look_of_gosem_cut_vars_went_over_the_folder_that_the_caller_named_as_the_repository_s_root__look_11_ : FuncId := 124
def f_var_s_door__unicode_utf8_acceptRanges_is_laid_by_its_own_initialiser__plain_data__look_11_ : FuncId := 125
def f_var_s_door__unicode_utf8_first_is_laid_by_its_text_alone__pinned_1_ : FuncId := 126
def f_gosem_cut_vars : FuncId := 127
def tabD : List TInfo := [
  ⟨.other, 1, 0, .tuple ⟨[]⟩⟩,
  ⟨.other, 1, 8, .nilFunc⟩,
  ⟨(.int .i64), 1, 8, .int .i64 0⟩,
  ⟨(.int .i64), 1, 8, .int .i64 0⟩,
  ⟨.bool, 1, 1, .bool false⟩,
  ⟨(.int .u8), 1, 1, .int .u8 0⟩,
  ⟨(.int .u8), 1, 1, .int .u8 0⟩,
  ⟨(.struct [(0, t_int64), (1, t_int), (2, t_bool), (3, t_abi_BoundsErrorCode)]), 4, 24, .agg ⟨[.int .i64 0, .int .i64 0, .bool false, .int .u8 0]⟩⟩,
  ⟨(.struct [(0, t_int64), (1, t_int), (2, t_bool), (3, t_abi_BoundsErrorCode)]), 4, 24, .agg ⟨[.int .i64 0, .int .i64 0, .bool false, .int .u8 0]⟩⟩,
  ⟨.str, 1, 16, .string ⟨⟨[]⟩⟩⟩,
  ⟨.str, 1, 16, .string ⟨⟨[]⟩⟩⟩,
  ⟨.str, 1, 16, .string ⟨⟨[]⟩⟩⟩,
  ⟨(.int .u64), 1, 8, .int .u64 0⟩,
  ⟨(.struct [(0, t_string), (1, t_uintptr)]), 2, 24, .agg ⟨[.string ⟨⟨[]⟩⟩, .int .u64 0]⟩⟩,
  ⟨(.struct [(0, t_string), (1, t_uintptr)]), 2, 24, .agg ⟨[.string ⟨⟨[]⟩⟩, .int .u64 0]⟩⟩,
  ⟨.other, 1, 8, .pointer none⟩,
  ⟨.other, 1, 8, .pointer none⟩,
  ⟨.other, 1, 8, .pointer none⟩,
  ⟨(.struct [(0, t_P_abi_Type)]), 1, 8, .agg ⟨[.pointer none]⟩⟩,
  ⟨(.struct [(0, t_P_abi_Type)]), 1, 8, .agg ⟨[.pointer none]⟩⟩,
  ⟨.other, 1, 16, .nilIface⟩,
  ⟨(.int .i32), 1, 4, .int .i32 0⟩,
  ⟨(.slice t_string), 1, 24, .slice none 0 0⟩,
  ⟨(.slice t_api_Val), 1, 24, .slice none 0 0⟩,
  ⟨.other, 1, 8, .nilFunc⟩,
  ⟨.other, 1, 8, .nilFunc⟩,
  ⟨(.slice t_api_Node), 1, 24, .slice none 0 0⟩,
  ⟨(.slice t_api_Node), 1, 24, .slice none 0 0⟩,
  ⟨(.int .i64), 1, 8, .int .i64 0⟩,
  ⟨.other, 1, 0, .tuple ⟨[.slice none 0 0, .int .i64 0]⟩⟩,
  ⟨.other, 1, 8, .nilFunc⟩,
  ⟨.other, 1, 8, .nilFunc⟩,
  ⟨.other, 1, 8, .nilFunc⟩,
  ⟨.other, 1, 8, .nilFunc⟩,
  ⟨.other, 1, 8, .nilFunc⟩,
  ⟨.other, 1, 8, .nilFunc⟩,
  ⟨.other, 1, 8, .nilFunc⟩,
  ⟨.other, 1, 8, .nilFunc⟩,
  ⟨.other, 1, 8, .nilFunc⟩,
  ⟨.other, 1, 8, .nilFunc⟩,
  ⟨.other, 1, 8, .nilFunc⟩,
  ⟨(.struct [(0, t_int), (1, t_int), (2, t_string), (3, t_string), (4, t_bool), (5, t_int)]), 6, 64, .agg ⟨[.int .i64 0, .int .i64 0, .string ⟨⟨[]⟩⟩, .string ⟨⟨[]⟩⟩, .bool false, .int .i64 0]⟩⟩,
  ⟨(.struct [(0, t_int), (1, t_int), (2, t_string), (3, t_string), (4, t_bool), (5, t_int)]), 6, 64, .agg ⟨[.int .i64 0, .int .i64 0, .string ⟨⟨[]⟩⟩, .string ⟨⟨[]⟩⟩, .bool false, .int .i64 0]⟩⟩,
  ⟨.other, 1, 8, .nilFunc⟩,
  ⟨.other, 1, 0, .tuple ⟨[.slice none 0 0, .bool false]⟩⟩,
  ⟨.other, 1, 8, .nilFunc⟩,
  ⟨(.map t_string t_api_Val), 1, 8, .map none⟩,
  ⟨.other, 1, 8, .nilFunc⟩,
  ⟨.other, 1, 8, .nilFunc⟩,
  ⟨.other, 1, 8, .nilFunc⟩,
  ⟨.other, 1, 8, .nilFunc⟩,
  ⟨.other, 1, 8, .nilFunc⟩,
  ⟨.other, 1, 8, .nilFunc⟩,
  ⟨(.slice t_bool), 1, 24, .slice none 0 0⟩,
  ⟨.other, 1, 8, .nilFunc⟩,
  ⟨.other, 1, 8, .nilFunc⟩,
  ⟨.other, 1, 8, .nilFunc⟩,
  ⟨.other, 1, 8, .nilFunc⟩,
  ⟨.other, 1, 8, .nilFunc⟩,
  ⟨.other, 1, 8, .nilFunc⟩,
  ⟨(.struct [(0, t_int), (1, t_int), (2, t_bool), (3, t_string)]), 4, 40, .agg ⟨[.int .i64 0, .int .i64 0, .bool false, .string ⟨⟨[]⟩⟩]⟩⟩,
  ⟨(.struct [(0, t_int), (1, t_int), (2, t_bool), (3, t_string)]), 4, 40, .agg ⟨[.int .i64 0, .int .i64 0, .bool false, .string ⟨⟨[]⟩⟩]⟩⟩,
  ⟨(.slice t_val_open), 1, 24, .slice none 0 0⟩,
  ⟨.other, 1, 8, .pointer none⟩,
  ⟨.other, 1, 8, .nilFunc⟩,
  ⟨.other, 1, 8, .nilFunc⟩,
  ⟨.other, 1, 8, .nilFunc⟩,
  ⟨.other, 1, 8, .nilFunc⟩,
  ⟨(.array 256 t_uint8), 256, 256, .agg ⟨[.int .u8 0, .int .u8 0, .int .u8 0, .int .u8 0, .int .u8 0, .int .u8 0, .int .u8 0, .int .u8 0, .int .u8 0, .int .u8 0, .int .u8 0, .int .u8 0, .int .u8 0, .int .u8 0, .int .u8 0, .int .u8 0, .int .u8 0, .int .u8 0, .int .u8 0, .int .u8 0, .int .u8 0, .int .u8 0, .int .u8 0, .int .u8 0, .int .u8 0, .int .u8 0, .int .u8 0, .int .u8 0, .int .u8 0, .int .u8 0, .int .u8 0, .int .u8 0, .int .u8 0, .int .u8 0, .int .u8 0, .int .u8 0, .int .u8 0, .int .u8 0, .int .u8 0, .int .u8 0, .int .u8 0, .int .u8 0, .int .u8 0, .int .u8 0, .int .u8 0, .int .u8 0, .int .u8 0, .int .u8 0, .int .u8 0, .int .u8 0, .int .u8 0, .int .u8 0, .int .u8 0, .int .u8 0, .int .u8 0, .int .u8 0, .int .u8 0, .int .u8 0, .int .u8 0, .int .u8 0, .int .u8 0, .int .u8 0, .int .u8 0, .int .u8 0, .int .u8 0, .int .u8 0, .int .u8 0, .int .u8 0, .int .u8 0, .int .u8 0, .int .u8 0, .int .u8 0, .int .u8 0, .int .u8 0, .int .u8 0, .int .u8 0, .int .u8 0, .int .u8 0, .int .u8 0, .int .u8 0, .int .u8 0, .int .u8 0, .int .u8 0, .int .u8 0, .int .u8 0, .int .u8 0, .int .u8 0, .int .u8 0, .int .u8 0, .int .u8 0, .int .u8 0, .int .u8 0, .int .u8 0, .int .u8 0, .int .u8 0, .int .u8 0, .int .u8 0, .int .u8 0, .int .u8 0, .int .u8 0, .int .u8 0, .int .u8 0, .int .u8 0, .int .u8 0, .int .u8 0, .int .u8 0, .int .u8 0, .int .u8 0, .int .u8 0, .int .u8 0, .int .u8 0, .int .u8 0, .int .u8 0, .int .u8 0, .int .u8 0, .int .u8 0, .int .u8 0, .int .u8 0, .int .u8 0, .int .u8 0, .int .u8 0, .int .u8 0, .int .u8 0, .int .u8 0, .int .u8 0, .int .u8 0, .int .u8 0, .int .u8 0, .int .u8 0, .int .u8 0, .int .u8 0, .int .u8 0, .int .u8 0, .int .u8 0, .int .u8 0, .int .u8 0, .int .u8 0, .int .u8 0, .int .u8 0, .int .u8 0, .int .u8 0, .int .u8 0, .int .u8 0, .int .u8 0, .int .u8 0, .int .u8 0, .int .u8 0, .int .u8 0, .int .u8 0, .int .u8 0, .int .u8 0, .int .u8 0, .int .u8 0, .int .u8 0, .int .u8 0, .int .u8 0, .int .u8 0, .int .u8 0, .int .u8 0, .int .u8 0, .int .u8 0, .int .u8 0, .int .u8 0, .int .u8 0, .int .u8 0, .int .u8 0, .int .u8 0, .int .u8 0, .int .u8 0, .int .u8 0, .int .u8 0, .int .u8 0, .int .u8 0, .int .u8 0, .int .u8 0, .int .u8 0, .int .u8 0, .int .u8 0, .int .u8 0, .int .u8 0, .int .u8 0, .int .u8 0, .int .u8 0, .int .u8 0, .int .u8 0, .int .u8 0, .int .u8 0, .int .u8 0, .int .u8 0, .int .u8 0, .int .u8 0, .int .u8 0, .int .u8 0, .int .u8 0, .int .u8 0, .int .u8 0, .int .u8 0, .int .u8 0, .int .u8 0, .int .u8 0, .int .u8 0, .int .u8 0, .int .u8 0, .int .u8 0, .int .u8 0, .int .u8 0, .int .u8 0, .int .u8 0, .int .u8 0, .int .u8 0, .int .u8 0, .int .u8 0, .int .u8 0, .int .u8 0, .int .u8 0, .int .u8 0, .int .u8 0, .int .u8 0, .int .u8 0, .int .u8 0, .int .u8 0, .int .u8 0, .int .u8 0, .int .u8 0, .int .u8 0, .int .u8 0, .int .u8 0, .int .u8 0, .int .u8 0, .int .u8 0, .int .u8 0, .int .u8 0, .int .u8 0, .int .u8 0, .int .u8 0, .int .u8 0, .int .u8 0, .int .u8 0, .int .u8 0, .int .u8 0, .int .u8 0, .int .u8 0, .int .u8 0, .int .u8 0, .int .u8 0, .int .u8 0, .int .u8 0, .int .u8 0, .int .u8 0, .int .u8 0, .int .u8 0, .int .u8 0, .int .u8 0, .int .u8 0, .int .u8 0, .int .u8 0]⟩⟩,
  ⟨(.struct [(0, t_uint8), (1, t_uint8)]), 2, 2, .agg ⟨[.int .u8 0, .int .u8 0]⟩⟩,
  ⟨(.struct [(0, t_uint8), (1, t_uint8)]), 2, 2, .agg ⟨[.int .u8 0, .int .u8 0]⟩⟩,
  ⟨(.array 16 t_utf8_acceptRange), 32, 32, .agg ⟨[.int .u8 0, .int .u8 0, .int .u8 0, .int .u8 0, .int .u8 0, .int .u8 0, .int .u8 0, .int .u8 0, .int .u8 0, .int .u8 0, .int .u8 0, .int .u8 0, .int .u8 0, .int .u8 0, .int .u8 0, .int .u8 0, .int .u8 0, .int .u8 0, .int .u8 0, .int .u8 0, .int .u8 0, .int .u8 0, .int .u8 0, .int .u8 0, .int .u8 0, .int .u8 0, .int .u8 0, .int .u8 0, .int .u8 0, .int .u8 0, .int .u8 0, .int .u8 0]⟩⟩,
  ⟨(.int .u64), 1, 8, .int .u64 0⟩,
  ⟨.other, 1, 8, .nilFunc⟩,
  ⟨.other, 1, 8, .nilFunc⟩,
  ⟨.other, 1, 8, .nilFunc⟩,
  ⟨.other, 1, 8, .nilFunc⟩,
  ⟨.other, 1, 8, .nilFunc⟩,
  ⟨.other, 1, 8, .nilFunc⟩,
  ⟨(.int .u64), 1, 8, .int .u64 0⟩,
  ⟨.other, 1, 8, .nilFunc⟩,
  ⟨.other, 1, 8, .nilFunc⟩,
  ⟨.other, 1, 8, .nilFunc⟩,
  ⟨.other, 1, 8, .nilFunc⟩,
  ⟨.other, 1, 8, .nilFunc⟩,
  ⟨.other, 1, 8, .nilFunc⟩,
  ⟨.other, 1, 8, .nilFunc⟩,
  ⟨(.int .i64), 1, 8, .int .i64 0⟩,
  ⟨.other, 1, 0, .tuple ⟨[.int .i64 0, .int .i64 0]⟩⟩,
  ⟨.other, 1, 8, .nilFunc⟩,
  ⟨.other, 1, 8, .nilFunc⟩,
  ⟨.other, 1, 8, .nilFunc⟩,
  ⟨.other, 1, 8, .nilFunc⟩,
  ⟨.other, 1, 0, .tuple ⟨[.int .i64 0, .bool false]⟩⟩,
  ⟨.other, 1, 8, .nilFunc⟩,
  ⟨.other, 1, 8, .nilFunc⟩,
  ⟨(.int .u32), 1, 4, .int .u32 0⟩,
  ⟨.other, 1, 8, .nilFunc⟩,
  ⟨.other, 1, 8, .nilFunc⟩,
  ⟨.other, 1, 8, .nilFunc⟩,
  ⟨.other, 1, 8, .nilFunc⟩,
  ⟨(.array 256 t_bool), 256, 256, .agg ⟨[.bool false, .bool false, .bool false, .bool false, .bool false, .bool false, .bool false, .bool false, .bool false, .bool false, .bool false, .bool false, .bool false, .bool false, .bool false, .bool false, .bool false, .bool false, .bool false, .bool false, .bool false, .bool false, .bool false, .bool false, .bool false, .bool false, .bool false, .bool false, .bool false, .bool false, .bool false, .bool false, .bool false, .bool false, .bool false, .bool false, .bool false, .bool false, .bool false, .bool false, .bool false, .bool false, .bool false, .bool false, .bool false, .bool false, .bool false, .bool false, .bool false, .bool false, .bool false, .bool false, .bool false, .bool false, .bool false, .bool false, .bool false, .bool false, .bool false, .bool false, .bool false, .bool false, .bool false, .bool false, .bool false, .bool false, .bool false, .bool false, .bool false, .bool false, .bool false, .bool false, .bool false, .bool false, .bool false, .bool false, .bool false, .bool false, .bool false, .bool false, .bool false, .bool false, .bool false, .bool false, .bool false, .bool false, .bool false, .bool false, .bool false, .bool false, .bool false, .bool false, .bool false, .bool false, .bool false, .bool false, .bool false, .bool false, .bool false, .bool false, .bool false, .bool false, .bool false, .bool false, .bool false, .bool false, .bool false, .bool false, .bool false, .bool false, .bool false, .bool false, .bool false, .bool false, .bool false, .bool false, .bool false, .bool false, .bool false, .bool false, .bool false, .bool false, .bool false, .bool false, .bool false, .bool false, .bool false, .bool false, .bool false, .bool false, .bool false, .bool false, .bool false, .bool false, .bool false, .bool false, .bool false, .bool false, .bool false, .bool false, .bool false, .bool false, .bool false, .bool false, .bool false, .bool false, .bool false, .bool false, .bool false, .bool false, .bool false, .bool false, .bool false, .bool false, .bool false, .bool false, .bool false, .bool false, .bool false, .bool false, .bool false, .bool false, .bool false, .bool false, .bool false, .bool false, .bool false, .bool false, .bool false, .bool false, .bool false, .bool false, .bool false, .bool false, .bool false, .bool false, .bool false, .bool false, .bool false, .bool false, .bool false, .bool false, .bool false, .bool false, .bool false, .bool false, .bool false, .bool false, .bool false, .bool false, .bool false, .bool false, .bool false, .bool false, .bool false, .bool false, .bool false, .bool false, .bool false, .bool false, .bool false, .bool false, .bool false, .bool false, .bool false, .bool false, .bool false, .bool false, .bool false, .bool false, .bool false, .bool false, .bool false, .bool false, .bool false, .bool false, .bool false, .bool false, .bool false, .bool false, .bool false, .bool false, .bool false, .bool false, .bool false, .bool false, .bool false, .bool false, .bool false, .bool false, .bool false, .bool false, .bool false, .bool false, .bool false, .bool false, .bool false, .bool false, .bool false, .bool false, .bool false, .bool false, .bool false, .bool false, .bool false, .bool false, .bool false, .bool false, .bool false, .bool false, .bool false, .bool false, .bool false, .bool false, .bool false, .bool false]⟩⟩,
  ⟨(.array 256 t_bool), 256, 256, .agg ⟨[.bool false, .bool false, .bool false, .bool false, .bool false, .bool false, .bool false, .bool false, .bool false, .bool false, .bool false, .bool false, .bool false, .bool false, .bool false, .bool false, .bool false, .bool false, .bool false, .bool false, .bool false, .bool false, .bool false, .bool false, .bool false, .bool false, .bool false, .bool false, .bool false, .bool false, .bool false, .bool false, .bool false, .bool false, .bool false, .bool false, .bool false, .bool false, .bool false, .bool false, .bool false, .bool false, .bool false, .bool false, .bool false, .bool false, .bool false, .bool false, .bool false, .bool false, .bool false, .bool false, .bool false, .bool false, .bool false, .bool false, .bool false, .bool false, .bool false, .bool false, .bool false, .bool false, .bool false, .bool false, .bool false, .bool false, .bool false, .bool false, .bool false, .bool false, .bool false, .bool false, .bool false, .bool false, .bool false, .bool false, .bool false, .bool false, .bool false, .bool false, .bool false, .bool false, .bool false, .bool false, .bool false, .bool false, .bool false, .bool false, .bool false, .bool false, .bool false, .bool false, .bool false, .bool false, .bool false, .bool false, .bool false, .bool false, .bool false, .bool false, .bool false, .bool false, .bool false, .bool false, .bool false, .bool false, .bool false, .bool false, .bool false, .bool false, .bool false, .bool false, .bool false, .bool false, .bool false, .bool false, .bool false, .bool false, .bool false, .bool false, .bool false, .bool false, .bool false, .bool false, .bool false, .bool false, .bool false, .bool false, .bool false, .bool false, .bool false, .bool false, .bool false, .bool false, .bool false, .bool false, .bool false, .bool false, .bool false, .bool false, .bool false, .bool false, .bool false, .bool false, .bool false, .bool false, .bool false, .bool false, .bool false, .bool false, .bool false, .bool false, .bool false, .bool false, .bool false, .bool false, .bool false, .bool false, .bool false, .bool false, .bool false, .bool false, .bool false, .bool false, .bool false, .bool false, .bool false, .bool false, .bool false, .bool false, .bool false, .bool false, .bool false, .bool false, .bool false, .bool false, .bool false, .bool false, .bool false, .bool false, .bool false, .bool false, .bool false, .bool false, .bool false, .bool false, .bool false, .bool false, .bool false, .bool false, .bool false, .bool false, .bool false, .bool false, .bool false, .bool false, .bool false, .bool false, .bool false, .bool false, .bool false, .bool false, .bool false, .bool false, .bool false, .bool false, .bool false, .bool false, .bool false, .bool false, .bool false, .bool false, .bool false, .bool false, .bool false, .bool false, .bool false, .bool false, .bool false, .bool false, .bool false, .bool false, .bool false, .bool false, .bool false, .bool false, .bool false, .bool false, .bool false, .bool false, .bool false, .bool false, .bool false, .bool false, .bool false, .bool false, .bool false, .bool false, .bool false, .bool false, .bool false, .bool false, .bool false, .bool false, .bool false, .bool false, .bool false, .bool false, .bool false, .bool false, .bool false, .bool false, .bool false, .bool false, .bool false, .bool false]⟩⟩,
  ⟨.other, 1, 0, .tuple ⟨[.agg ⟨[.bool false, .bool false, .bool false, .bool false, .bool false, .bool false, .bool false, .bool false, .bool false, .bool false, .bool false, .bool false, .bool false, .bool false, .bool false, .bool false, .bool false, .bool false, .bool false, .bool false, .bool false, .bool false, .bool false, .bool false, .bool false, .bool false, .bool false, .bool false, .bool false, .bool false, .bool false, .bool false, .bool false, .bool false, .bool false, .bool false, .bool false, .bool false, .bool false, .bool false, .bool false, .bool false, .bool false, .bool false, .bool false, .bool false, .bool false, .bool false, .bool false, .bool false, .bool false, .bool false, .bool false, .bool false, .bool false, .bool false, .bool false, .bool false, .bool false, .bool false, .bool false, .bool false, .bool false, .bool false, .bool false, .bool false, .bool false, .bool false, .bool false, .bool false, .bool false, .bool false, .bool false, .bool false, .bool false, .bool false, .bool false, .bool false, .bool false, .bool false, .bool false, .bool false, .bool false, .bool false, .bool false, .bool false, .bool false, .bool false, .bool false, .bool false, .bool false, .bool false, .bool false, .bool false, .bool false, .bool false, .bool false, .bool false, .bool false, .bool false, .bool false, .bool false, .bool false, .bool false, .bool false, .bool false, .bool false, .bool false, .bool false, .bool false, .bool false, .bool false, .bool false, .bool false, .bool false, .bool false, .bool false, .bool false, .bool false, .bool false, .bool false, .bool false, .bool false, .bool false, .bool false, .bool false, .bool false, .bool false, .bool false, .bool false, .bool false, .bool false, .bool false, .bool false, .bool false, .bool false, .bool false, .bool false, .bool false, .bool false, .bool false, .bool false, .bool false, .bool false, .bool false, .bool false, .bool false, .bool false, .bool false, .bool false, .bool false, .bool false, .bool false, .bool false, .bool false, .bool false, .bool false, .bool false, .bool false, .bool false, .bool false, .bool false, .bool false, .bool false, .bool false, .bool false, .bool false, .bool false, .bool false, .bool false, .bool false, .bool false, .bool false, .bool false, .bool false, .bool false, .bool false, .bool false, .bool false, .bool false, .bool false, .bool false, .bool false, .bool false, .bool false, .bool false, .bool false, .bool false, .bool false, .bool false, .bool false, .bool false, .bool false, .bool false, .bool false, .bool false, .bool false, .bool false, .bool false, .bool false, .bool false, .bool false, .bool false, .bool false, .bool false, .bool false, .bool false, .bool false, .bool false, .bool false, .bool false, .bool false, .bool false, .bool false, .bool false, .bool false, .bool false, .bool false, .bool false, .bool false, .bool false, .bool false, .bool false, .bool false, .bool false, .bool false, .bool false, .bool false, .bool false, .bool false, .bool false, .bool false, .bool false, .bool false, .bool false, .bool false, .bool false, .bool false, .bool false, .bool false, .bool false, .bool false, .bool false, .bool false, .bool false, .bool false, .bool false, .bool false, .bool false, .bool false, .bool false, .bool false, .bool false, .bool false, .bool false, .bool false]⟩, .bool false]⟩⟩,
  ⟨.other, 1, 8, .nilFunc⟩,
  ⟨.other, 1, 8, .nilFunc⟩,
  ⟨.other, 1, 8, .pointer none⟩,
  ⟨(.int .u64), 1, 8, .int .u64 0⟩,
  ⟨.other, 1, 8, .nilFunc⟩,
  ⟨.other, 1, 8, .nilFunc⟩,
  ⟨.other, 1, 8, .nilFunc⟩,
  ⟨.other, 1, 8, .pointer none⟩,
  ⟨.other, 1, 8, .nilFunc⟩,
  ⟨.other, 1, 8, .nilFunc⟩,
  ⟨.other, 1, 0, .tuple ⟨[.int .i32 0, .int .i64 0]⟩⟩,
  ⟨.other, 1, 8, .nilFunc⟩,
  ⟨.other, 1, 8, .nilFunc⟩,
  ⟨.other, 1, 8, .pointer none⟩,
  ⟨.other, 1, 0, .tuple ⟨[.int .i64 0, .int .i64 0]⟩⟩,
  ⟨.other, 1, 8, .nilFunc⟩,
  ⟨.other, 1, 8, .nilFunc⟩,
  ⟨.other, 1, 8, .nilFunc⟩,
  ⟨.other, 1, 8, .nilFunc⟩,
  ⟨.other, 1, 8, .nilFunc⟩,
  ⟨.other, 1, 8, .nilFunc⟩,
  ⟨.other, 1, 8, .nilFunc⟩,
  ⟨(.struct [(0, t_P_abi_Type), (1, t_P_abi_Type), (2, t_P_abi_Type), (3, t_string)]), 4, 40, .agg ⟨[.pointer none, .pointer none, .pointer none, .string ⟨⟨[]⟩⟩]⟩⟩,
  ⟨(.struct [(0, t_P_abi_Type), (1, t_P_abi_Type), (2, t_P_abi_Type), (3, t_string)]), 4, 40, .agg ⟨[.pointer none, .pointer none, .pointer none, .string ⟨⟨[]⟩⟩]⟩⟩,
  ⟨(.array 0 t_P_runtime_PanicNilError), 0, 0, .agg ⟨[]⟩⟩,
  ⟨(.struct [(0, t__0_P_runtime_PanicNilError)]), 0, 0, .agg ⟨[]⟩⟩,
  ⟨(.struct [(0, t__0_P_runtime_PanicNilError)]), 0, 0, .agg ⟨[]⟩⟩,
  ⟨.other, 1, 8, .nilFunc⟩,
  ⟨(.int .u8), 1, 1, .int .u8 0⟩,
  ⟨(.int .u8), 1, 1, .int .u8 0⟩,
  ⟨.other, 1, 8, .nilFunc⟩,
  ⟨.other, 1, 8, .pointer none⟩,
  ⟨(.int .i32), 1, 4, .int .i32 0⟩,
  ⟨(.int .i32), 1, 4, .int .i32 0⟩,
  ⟨(.struct [(0, t_uintptr), (1, t_uintptr), (2, t_uint32), (3, t_abi_TFlag), (4, t_uint8), (5, t_uint8), (6, t_abi_Kind), (7, t_func_unsafe_Pointer__unsafe_Pointer__bool), (8, t_P_uint8), (9, t_abi_NameOff), (10, t_abi_TypeOff)]), 11, 48, .agg ⟨[.int .u64 0, .int .u64 0, .int .u32 0, .int .u8 0, .int .u8 0, .int .u8 0, .int .u8 0, .nilFunc, .pointer none, .int .i32 0, .int .i32 0]⟩⟩,
  ⟨(.struct [(0, t_uintptr), (1, t_uintptr), (2, t_uint32), (3, t_abi_TFlag), (4, t_uint8), (5, t_uint8), (6, t_abi_Kind), (7, t_func_unsafe_Pointer__unsafe_Pointer__bool), (8, t_P_uint8), (9, t_abi_NameOff), (10, t_abi_TypeOff)]), 11, 48, .agg ⟨[.int .u64 0, .int .u64 0, .int .u32 0, .int .u8 0, .int .u8 0, .int .u8 0, .int .u8 0, .nilFunc, .pointer none, .int .i32 0, .int .i32 0]⟩⟩,
  ⟨.other, 1, 8, .pointer none⟩]
def D (t : TypeId) : TInfo := tabD.getD t TInfo.off
theorem tok_0 : TOk Tryd.prog 0 (tabD.getD 0 TInfo.off) := tok_mk (by kernel_rfl) (by kernel_rfl) (by kernel_rfl)
theorem tok_1 : TOk Tryd.prog 1 (tabD.getD 1 TInfo.off) := tok_mk (by kernel_rfl) (by kernel_rfl) (by kernel_rfl)
theorem tok_2 : TOk Tryd.prog 2 (tabD.getD 2 TInfo.off) := tok_mk (by kernel_rfl) (by kernel_rfl) (by kernel_rfl)
theorem tok_3 : TOk Tryd.prog 3 (tabD.getD 3 TInfo.off) := tok_mk (by kernel_rfl) (by kernel_rfl) (by kernel_rfl)
theorem tok_4 : TOk Tryd.prog 4 (tabD.getD 4 TInfo.off) := tok_mk (by kernel_rfl) (by kernel_rfl) (by kernel_rfl)
theorem tok_5 : TOk Tryd.prog 5 (tabD.getD 5 TInfo.off) := tok_mk (by kernel_rfl) (by kernel_rfl) (by kernel_rfl)
theorem tok_6 : TOk Tryd.prog 6 (tabD.getD 6 TInfo.off) := tok_mk (by kernel_rfl) (by kernel_rfl) (by kernel_rfl)
theorem tok_7 : TOk Tryd.prog 7 (tabD.getD 7 TInfo.off) := tok_mk (by kernel_rfl) (by kernel_rfl) (by kernel_rfl)
theorem tok_8 : TOk Tryd.prog 8 (tabD.getD 8 TInfo.off) := tok_mk (by kernel_rfl) (by kernel_rfl) (by kernel_rfl)
theorem tok_9 : TOk Tryd.prog 9 (tabD.getD 9 TInfo.off) := tok_mk (by kernel_rfl) (by kernel_rfl) (by kernel_rfl)
theorem tok_10 : TOk Tryd.prog 10 (tabD.getD 10 TInfo.off) := tok_mk (by kernel_rfl) (by kernel_rfl) (by kernel_rfl)
theorem tok_11 : TOk Tryd.prog 11 (tabD.getD 11 TInfo.off) := tok_mk (by kernel_rfl) (by kernel_rfl) (by kernel_rfl)
theorem tok_12 : TOk Tryd.prog 12 (tabD.getD 12 TInfo.off) := tok_mk (by kernel_rfl) (by kernel_rfl) (by kernel_rfl)
theorem tok_13 : TOk Tryd.prog 13 (tabD.getD 13 TInfo.off) := tok_mk (by kernel_rfl) (by kernel_rfl) (by kernel_rfl)
theorem tok_14 : TOk Tryd.prog 14 (tabD.getD 14 TInfo.off) := tok_mk (by kernel_rfl) (by kernel_rfl) (by kernel_rfl)
theorem tok_15 : TOk Tryd.prog 15 (tabD.getD 15 TInfo.off) := tok_mk (by kernel_rfl) (by kernel_rfl) (by kernel_rfl)
theorem tok_16 : TOk Tryd.prog 16 (tabD.getD 16 TInfo.off) := tok_mk (by kernel_rfl) (by kernel_rfl) (by kernel_rfl)
theorem tok_17 : TOk Tryd.prog 17 (tabD.getD 17 TInfo.off) := tok_mk (by kernel_rfl) (by kernel_rfl) (by kernel_rfl)
theorem tok_18 : TOk Tryd.prog 18 (tabD.getD 18 TInfo.off) := tok_mk (by kernel_rfl) (by kernel_rfl) (by kernel_rfl)
theorem tok_19 : TOk Tryd.prog 19 (tabD.getD 19 TInfo.off) := tok_mk (by kernel_rfl) (by kernel_rfl) (by kernel_rfl)
theorem tok_20 : TOk Tryd.prog 20 (tabD.getD 20 TInfo.off) := tok_mk (by kernel_rfl) (by kernel_rfl) (by kernel_rfl)
theorem tok_21 : TOk Tryd.prog 21 (tabD.getD 21 TInfo.off) := tok_mk (by kernel_rfl) (by kernel_rfl) (by kernel_rfl)
theorem tok_22 : TOk Tryd.prog 22 (tabD.getD 22 TInfo.off) := tok_mk (by kernel_rfl) (by kernel_rfl) (by kernel_rfl)
theorem tok_23 : TOk Tryd.prog 23 (tabD.getD 23 TInfo.off) := tok_mk (by kernel_rfl) (by kernel_rfl) (by kernel_rfl)
theorem tok_24 : TOk Tryd.prog 24 (tabD.getD 24 TInfo.off) := tok_mk (by kernel_rfl) (by kernel_rfl) (by kernel_rfl)
theorem tok_25 : TOk Tryd.prog 25 (tabD.getD 25 TInfo.off) := tok_mk (by kernel_rfl) (by kernel_rfl) (by kernel_rfl)
theorem tok_26 : TOk Tryd.prog 26 (tabD.getD 26 TInfo.off) := tok_mk (by kernel_rfl) (by kernel_rfl) (by kernel_rfl)
theorem tok_27 : TOk Tryd.prog 27 (tabD.getD 27 TInfo.off) := tok_mk (by kernel_rfl) (by kernel_rfl) (by kernel_rfl)
theorem tok_28 : TOk Tryd.prog 28 (tabD.getD 28 TInfo.off) := tok_mk (by kernel_rfl) (by kernel_rfl) (by kernel_rfl)
theorem tok_29 : TOk Tryd.prog 29 (tabD.getD 29 TInfo.off) := tok_mk (by kernel_rfl) (by kernel_rfl) (by kernel_rfl)
theorem tok_30 : TOk Tryd.prog 30 (tabD.getD 30 TInfo.off) := tok_mk (by kernel_rfl) (by kernel_rfl) (by kernel_rfl)
theorem tok_31 : TOk Tryd.prog 31 (tabD.getD 31 TInfo.off) := tok_mk (by kernel_rfl) (by kernel_rfl) (by kernel_rfl)
theorem tok_32 : TOk Tryd.prog 32 (tabD.getD 32 TInfo.off) := tok_mk (by kernel_rfl) (by kernel_rfl) (by kernel_rfl)
theorem tok_33 : TOk Tryd.prog 33 (tabD.getD 33 TInfo.off) := tok_mk (by kernel_rfl) (by kernel_rfl) (by kernel_rfl)
theorem tok_34 : TOk Tryd.prog 34 (tabD.getD 34 TInfo.off) := tok_mk (by kernel_rfl) (by kernel_rfl) (by kernel_rfl)
theorem tok_35 : TOk Tryd.prog 35 (tabD.getD 35 TInfo.off) := tok_mk (by kernel_rfl) (by kernel_rfl) (by kernel_rfl)
theorem tok_36 : TOk Tryd.prog 36 (tabD.getD 36 TInfo.off) := tok_mk (by kernel_rfl) (by kernel_rfl) (by kernel_rfl)
theorem tok_37 : TOk Tryd.prog 37 (tabD.getD 37 TInfo.off) := tok_mk (by kernel_rfl) (by kernel_rfl) (by kernel_rfl)
theorem tok_38 : TOk Tryd.prog 38 (tabD.getD 38 TInfo.off) := tok_mk (by kernel_rfl) (by kernel_rfl) (by kernel_rfl)
theorem tok_39 : TOk Tryd.prog 39 (tabD.getD 39 TInfo.off) := tok_mk (by kernel_rfl) (by kernel_rfl) (by kernel_rfl)
theorem tok_40 : TOk Tryd.prog 40 (tabD.getD 40 TInfo.off) := tok_mk (by kernel_rfl) (by kernel_rfl) (by kernel_rfl)
theorem tok_41 : TOk Tryd.prog 41 (tabD.getD 41 TInfo.off) := tok_mk (by kernel_rfl) (by kernel_rfl) (by kernel_rfl)
theorem tok_42 : TOk Tryd.prog 42 (tabD.getD 42 TInfo.off) := tok_mk (by kernel_rfl) (by kernel_rfl) (by kernel_rfl)
theorem tok_43 : TOk Tryd.prog 43 (tabD.getD 43 TInfo.off) := tok_mk (by kernel_rfl) (by kernel_rfl) (by kernel_rfl)
theorem tok_44 : TOk Tryd.prog 44 (tabD.getD 44 TInfo.off) := tok_mk (by kernel_rfl) (by kernel_rfl) (by kernel_rfl)
theorem tok_45 : TOk Tryd.prog 45 (tabD.getD 45 TInfo.off) := tok_mk (by kernel_rfl) (by kernel_rfl) (by kernel_rfl)
theorem tok_46 : TOk Tryd.prog 46 (tabD.getD 46 TInfo.off) := tok_mk (by kernel_rfl) (by kernel_rfl) (by kernel_rfl)
theorem tok_47 : TOk Tryd.prog 47 (tabD.getD 47 TInfo.off) := tok_mk (by kernel_rfl) (by kernel_rfl) (by kernel_rfl)
theorem tok_48 : TOk Tryd.prog 48 (tabD.getD 48 TInfo.off) := tok_mk (by kernel_rfl) (by kernel_rfl) (by kernel_rfl)
theorem tok_49 : TOk Tryd.prog 49 (tabD.getD 49 TInfo.off) := tok_mk (by kernel_rfl) (by kernel_rfl) (by kernel_rfl)
theorem tok_50 : TOk Tryd.prog 50 (tabD.getD 50 TInfo.off) := tok_mk (by kernel_rfl) (by kernel_rfl) (by kernel_rfl)
theorem tok_51 : TOk Tryd.prog 51 (tabD.getD 51 TInfo.off) := tok_mk (by kernel_rfl) (by kernel_rfl) (by kernel_rfl)
theorem tok_52 : TOk Tryd.prog 52 (tabD.getD 52 TInfo.off) := tok_mk (by kernel_rfl) (by kernel_rfl) (by kernel_rfl)
theorem tok_53 : TOk Tryd.prog 53 (tabD.getD 53 TInfo.off) := tok_mk (by kernel_rfl) (by kernel_rfl) (by kernel_rfl)
theorem tok_54 : TOk Tryd.prog 54 (tabD.getD 54 TInfo.off) := tok_mk (by kernel_rfl) (by kernel_rfl) (by kernel_rfl)
theorem tok_55 : TOk Tryd.prog 55 (tabD.getD 55 TInfo.off) := tok_mk (by kernel_rfl) (by kernel_rfl) (by kernel_rfl)
theorem tok_56 : TOk Tryd.prog 56 (tabD.getD 56 TInfo.off) := tok_mk (by kernel_rfl) (by kernel_rfl) (by kernel_rfl)
theorem tok_57 : TOk Tryd.prog 57 (tabD.getD 57 TInfo.off) := tok_mk (by kernel_rfl) (by kernel_rfl) (by kernel_rfl)
theorem tok_58 : TOk Tryd.prog 58 (tabD.getD 58 TInfo.off) := tok_mk (by kernel_rfl) (by kernel_rfl) (by kernel_rfl)
theorem tok_59 : TOk Tryd.prog 59 (tabD.getD 59 TInfo.off) := tok_mk (by kernel_rfl) (by kernel_rfl) (by kernel_rfl)
theorem tok_60 : TOk Tryd.prog 60 (tabD.getD 60 TInfo.off) := tok_mk (by kernel_rfl) (by kernel_rfl) (by kernel_rfl)
theorem tok_61 : TOk Tryd.prog 61 (tabD.getD 61 TInfo.off) := tok_mk (by kernel_rfl) (by kernel_rfl) (by kernel_rfl)
theorem tok_62 : TOk Tryd.prog 62 (tabD.getD 62 TInfo.off) := tok_mk (by kernel_rfl) (by kernel_rfl) (by kernel_rfl)
theorem tok_63 : TOk Tryd.prog 63 (tabD.getD 63 TInfo.off) := tok_mk (by kernel_rfl) (by kernel_rfl) (by kernel_rfl)
theorem tok_64 : TOk Tryd.prog 64 (tabD.getD 64 TInfo.off) := tok_mk (by kernel_rfl) (by kernel_rfl) (by kernel_rfl)
theorem tok_65 : TOk Tryd.prog 65 (tabD.getD 65 TInfo.off) := tok_mk (by kernel_rfl) (by kernel_rfl) (by kernel_rfl)
theorem tok_66 : TOk Tryd.prog 66 (tabD.getD 66 TInfo.off) := tok_mk (by kernel_rfl) (by kernel_rfl) (by kernel_rfl)
theorem tok_67 : TOk Tryd.prog 67 (tabD.getD 67 TInfo.off) := tok_mk (by kernel_rfl) (by kernel_rfl) (by kernel_rfl)
theorem tok_68 : TOk Tryd.prog 68 (tabD.getD 68 TInfo.off) := tok_mk (by kernel_rfl) (by kernel_rfl) (by kernel_rfl)
theorem tok_69 : TOk Tryd.prog 69 (tabD.getD 69 TInfo.off) := tok_mk (by kernel_rfl) (by kernel_rfl) (by kernel_rfl)
theorem tok_70 : TOk Tryd.prog 70 (tabD.getD 70 TInfo.off) := tok_mk (by kernel_rfl) (by kernel_rfl) (by kernel_rfl)
theorem tok_71 : TOk Tryd.prog 71 (tabD.getD 71 TInfo.off) := tok_mk (by kernel_rfl) (by kernel_rfl) (by kernel_rfl)
theorem tok_72 : TOk Tryd.prog 72 (tabD.getD 72 TInfo.off) := tok_mk (by kernel_rfl) (by kernel_rfl) (by kernel_rfl)
theorem tok_73 : TOk Tryd.prog 73 (tabD.getD 73 TInfo.off) := tok_mk (by kernel_rfl) (by kernel_rfl) (by kernel_rfl)
theorem tok_74 : TOk Tryd.prog 74 (tabD.getD 74 TInfo.off) := tok_mk (by kernel_rfl) (by kernel_rfl) (by kernel_rfl)
theorem tok_75 : TOk Tryd.prog 75 (tabD.getD 75 TInfo.off) := tok_mk (by kernel_rfl) (by kernel_rfl) (by kernel_rfl)
theorem tok_76 : TOk Tryd.prog 76 (tabD.getD 76 TInfo.off) := tok_mk (by kernel_rfl) (by kernel_rfl) (by kernel_rfl)
theorem tok_77 : TOk Tryd.prog 77 (tabD.getD 77 TInfo.off) := tok_mk (by kernel_rfl) (by kernel_rfl) (by kernel_rfl)
theorem tok_78 : TOk Tryd.prog 78 (tabD.getD 78 TInfo.off) := tok_mk (by kernel_rfl) (by kernel_rfl) (by kernel_rfl)
theorem tok_79 : TOk Tryd.prog 79 (tabD.getD 79 TInfo.off) := tok_mk (by kernel_rfl) (by kernel_rfl) (by kernel_rfl)
theorem tok_80 : TOk Tryd.prog 80 (tabD.getD 80 TInfo.off) := tok_mk (by kernel_rfl) (by kernel_rfl) (by kernel_rfl)
theorem tok_81 : TOk Tryd.prog 81 (tabD.getD 81 TInfo.off) := tok_mk (by kernel_rfl) (by kernel_rfl) (by kernel_rfl)
theorem tok_82 : TOk Tryd.prog 82 (tabD.getD 82 TInfo.off) := tok_mk (by kernel_rfl) (by kernel_rfl) (by kernel_rfl)
theorem tok_83 : TOk Tryd.prog 83 (tabD.getD 83 TInfo.off) := tok_mk (by kernel_rfl) (by kernel_rfl) (by kernel_rfl)
theorem tok_84 : TOk Tryd.prog 84 (tabD.getD 84 TInfo.off) := tok_mk (by kernel_rfl) (by kernel_rfl) (by kernel_rfl)
theorem tok_85 : TOk Tryd.prog 85 (tabD.getD 85 TInfo.off) := tok_mk (by kernel_rfl) (by kernel_rfl) (by kernel_rfl)
theorem tok_86 : TOk Tryd.prog 86 (tabD.getD 86 TInfo.off) := tok_mk (by kernel_rfl) (by kernel_rfl) (by kernel_rfl)
theorem tok_87 : TOk Tryd.prog 87 (tabD.getD 87 TInfo.off) := tok_mk (by kernel_rfl) (by kernel_rfl) (by kernel_rfl)
theorem tok_88 : TOk Tryd.prog 88 (tabD.getD 88 TInfo.off) := tok_mk (by kernel_rfl) (by kernel_rfl) (by kernel_rfl)
theorem tok_89 : TOk Tryd.prog 89 (tabD.getD 89 TInfo.off) := tok_mk (by kernel_rfl) (by kernel_rfl) (by kernel_rfl)
theorem tok_90 : TOk Tryd.prog 90 (tabD.getD 90 TInfo.off) := tok_mk (by kernel_rfl) (by kernel_rfl) (by kernel_rfl)
theorem tok_91 : TOk Tryd.prog 91 (tabD.getD 91 TInfo.off) := tok_mk (by kernel_rfl) (by kernel_rfl) (by kernel_rfl)
theorem tok_92 : TOk Tryd.prog 92 (tabD.getD 92 TInfo.off) := tok_mk (by kernel_rfl) (by kernel_rfl) (by kernel_rfl)
theorem tok_93 : TOk Tryd.prog 93 (tabD.getD 93 TInfo.off) := tok_mk (by kernel_rfl) (by kernel_rfl) (by kernel_rfl)
theorem tok_94 : TOk Tryd.prog 94 (tabD.getD 94 TInfo.off) := tok_mk (by kernel_rfl) (by kernel_rfl) (by kernel_rfl)
theorem tok_95 : TOk Tryd.prog 95 (tabD.getD 95 TInfo.off) := tok_mk (by kernel_rfl) (by kernel_rfl) (by kernel_rfl)
theorem tok_96 : TOk Tryd.prog 96 (tabD.getD 96 TInfo.off) := tok_mk (by kernel_rfl) (by kernel_rfl) (by kernel_rfl)
theorem tok_97 : TOk Tryd.prog 97 (tabD.getD 97 TInfo.off) := tok_mk (by kernel_rfl) (by kernel_rfl) (by kernel_rfl)
theorem tok_98 : TOk Tryd.prog 98 (tabD.getD 98 TInfo.off) := tok_mk (by kernel_rfl) (by kernel_rfl) (by kernel_rfl)
theorem tok_99 : TOk Tryd.prog 99 (tabD.getD 99 TInfo.off) := tok_mk (by kernel_rfl) (by kernel_rfl) (by kernel_rfl)
theorem tok_100 : TOk Tryd.prog 100 (tabD.getD 100 TInfo.off) := tok_mk (by kernel_rfl) (by kernel_rfl) (by kernel_rfl)
theorem tok_101 : TOk Tryd.prog 101 (tabD.getD 101 TInfo.off) := tok_mk (by kernel_rfl) (by kernel_rfl) (by kernel_rfl)
theorem tok_102 : TOk Tryd.prog 102 (tabD.getD 102 TInfo.off) := tok_mk (by kernel_rfl) (by kernel_rfl) (by kernel_rfl)
theorem tok_103 : TOk Tryd.prog 103 (tabD.getD 103 TInfo.off) := tok_mk (by kernel_rfl) (by kernel_rfl) (by kernel_rfl)
theorem tok_104 : TOk Tryd.prog 104 (tabD.getD 104 TInfo.off) := tok_mk (by kernel_rfl) (by kernel_rfl) (by kernel_rfl)
theorem tok_105 : TOk Tryd.prog 105 (tabD.getD 105 TInfo.off) := tok_mk (by kernel_rfl) (by kernel_rfl) (by kernel_rfl)
theorem tok_106 : TOk Tryd.prog 106 (tabD.getD 106 TInfo.off) := tok_mk (by kernel_rfl) (by kernel_rfl) (by kernel_rfl)
theorem tok_107 : TOk Tryd.prog 107 (tabD.getD 107 TInfo.off) := tok_mk (by kernel_rfl) (by kernel_rfl) (by kernel_rfl)
theorem tok_108 : TOk Tryd.prog 108 (tabD.getD 108 TInfo.off) := tok_mk (by kernel_rfl) (by kernel_rfl) (by kernel_rfl)
theorem tok_109 : TOk Tryd.prog 109 (tabD.getD 109 TInfo.off) := tok_mk (by kernel_rfl) (by kernel_rfl) (by kernel_rfl)
theorem tok_110 : TOk Tryd.prog 110 (tabD.getD 110 TInfo.off) := tok_mk (by kernel_rfl) (by kernel_rfl) (by kernel_rfl)
theorem tok_111 : TOk Tryd.prog 111 (tabD.getD 111 TInfo.off) := tok_mk (by kernel_rfl) (by kernel_rfl) (by kernel_rfl)
theorem tok_112 : TOk Tryd.prog 112 (tabD.getD 112 TInfo.off) := tok_mk (by kernel_rfl) (by kernel_rfl) (by kernel_rfl)
theorem tok_113 : TOk Tryd.prog 113 (tabD.getD 113 TInfo.off) := tok_mk (by kernel_rfl) (by kernel_rfl) (by kernel_rfl)
theorem tok_114 : TOk Tryd.prog 114 (tabD.getD 114 TInfo.off) := tok_mk (by kernel_rfl) (by kernel_rfl) (by kernel_rfl)
theorem tok_115 : TOk Tryd.prog 115 (tabD.getD 115 TInfo.off) := tok_mk (by kernel_rfl) (by kernel_rfl) (by kernel_rfl)
theorem tok_116 : TOk Tryd.prog 116 (tabD.getD 116 TInfo.off) := tok_mk (by kernel_rfl) (by kernel_rfl) (by kernel_rfl)
theorem tok_117 : TOk Tryd.prog 117 (tabD.getD 117 TInfo.off) := tok_mk (by kernel_rfl) (by kernel_rfl) (by kernel_rfl)
theorem tok_118 : TOk Tryd.prog 118 (tabD.getD 118 TInfo.off) := tok_mk (by kernel_rfl) (by kernel_rfl) (by kernel_rfl)
theorem tok_119 : TOk Tryd.prog 119 (tabD.getD 119 TInfo.off) := tok_mk (by kernel_rfl) (by kernel_rfl) (by kernel_rfl)
theorem tok_120 : TOk Tryd.prog 120 (tabD.getD 120 TInfo.off) := tok_mk (by kernel_rfl) (by kernel_rfl) (by kernel_rfl)
theorem tok_121 : TOk Tryd.prog 121 (tabD.getD 121 TInfo.off) := tok_mk (by kernel_rfl) (by kernel_rfl) (by kernel_rfl)
theorem tok_122 : TOk Tryd.prog 122 (tabD.getD 122 TInfo.off) := tok_mk (by kernel_rfl) (by kernel_rfl) (by kernel_rfl)
theorem tok_123 : TOk Tryd.prog 123 (tabD.getD 123 TInfo.off) := tok_mk (by kernel_rfl) (by kernel_rfl) (by kernel_rfl)
theorem tok_124 : TOk Tryd.prog 124 (tabD.getD 124 TInfo.off) := tok_mk (by kernel_rfl) (by kernel_rfl) (by kernel_rfl)
theorem tok_125 : TOk Tryd.prog 125 (tabD.getD 125 TInfo.off) := tok_mk (by kernel_rfl) (by kernel_rfl) (by kernel_rfl)
theorem tok_126 : TOk Tryd.prog 126 (tabD.getD 126 TInfo.off) := tok_mk (by kernel_rfl) (by kernel_rfl) (by kernel_rfl)
theorem tok_127 : TOk Tryd.prog 127 (tabD.getD 127 TInfo.off) := tok_mk (by kernel_rfl) (by kernel_rfl) (by kernel_rfl)
theorem tok_128 : TOk Tryd.prog 128 (tabD.getD 128 TInfo.off) := tok_mk (by kernel_rfl) (by kernel_rfl) (by kernel_rfl)
theorem tok_129 : TOk Tryd.prog 129 (tabD.getD 129 TInfo.off) := tok_mk (by kernel_rfl) (by kernel_rfl) (by kernel_rfl)
theorem tok_130 : TOk Tryd.prog 130 (tabD.getD 130 TInfo.off) := tok_mk (by kernel_rfl) (by kernel_rfl) (by kernel_rfl)
theorem tok_131 : TOk Tryd.prog 131 (tabD.getD 131 TInfo.off) := tok_mk (by kernel_rfl) (by kernel_rfl) (by kernel_rfl)
theorem tok_132 : TOk Tryd.prog 132 (tabD.getD 132 TInfo.off) := tok_mk (by kernel_rfl) (by kernel_rfl) (by kernel_rfl)
theorem tok_133 : TOk Tryd.prog 133 (tabD.getD 133 TInfo.off) := tok_mk (by kernel_rfl) (by kernel_rfl) (by kernel_rfl)
theorem tok_134 : TOk Tryd.prog 134 (tabD.getD 134 TInfo.off) := tok_mk (by kernel_rfl) (by kernel_rfl) (by kernel_rfl)
theorem tok_135 : TOk Tryd.prog 135 (tabD.getD 135 TInfo.off) := tok_mk (by kernel_rfl) (by kernel_rfl) (by kernel_rfl)
theorem tok_136 : TOk Tryd.prog 136 (tabD.getD 136 TInfo.off) := tok_mk (by kernel_rfl) (by kernel_rfl) (by kernel_rfl)
theorem tok_137 : TOk Tryd.prog 137 (tabD.getD 137 TInfo.off) := tok_mk (by kernel_rfl) (by kernel_rfl) (by kernel_rfl)
theorem tok_138 : TOk Tryd.prog 138 (tabD.getD 138 TInfo.off) := tok_mk (by kernel_rfl) (by kernel_rfl) (by kernel_rfl)
theorem tok_139 : TOk Tryd.prog 139 (tabD.getD 139 TInfo.off) := tok_mk (by kernel_rfl) (by kernel_rfl) (by kernel_rfl)
theorem tok_140 : TOk Tryd.prog 140 (tabD.getD 140 TInfo.off) := tok_mk (by kernel_rfl) (by kernel_rfl) (by kernel_rfl)
theorem allT : AllT Tryd.prog 0 tabD := ⟨tok_0, tok_1, tok_2, tok_3, tok_4, tok_5, tok_6, tok_7, tok_8, tok_9, tok_10, tok_11, tok_12, tok_13, tok_14, tok_15, tok_16, tok_17, tok_18, tok_19, tok_20, tok_21, tok_22, tok_23, tok_24, tok_25, tok_26, tok_27, tok_28, tok_29, tok_30, tok_31, tok_32, tok_33, tok_34, tok_35, tok_36, tok_37, tok_38, tok_39, tok_40, tok_41, tok_42, tok_43, tok_44, tok_45, tok_46, tok_47, tok_48, tok_49, tok_50, tok_51, tok_52, tok_53, tok_54, tok_55, tok_56, tok_57, tok_58, tok_59, tok_60, tok_61, tok_62, tok_63, tok_64, tok_65, tok_66, tok_67, tok_68, tok_69, tok_70, tok_71, tok_72, tok_73, tok_74, tok_75, tok_76, tok_77, tok_78, tok_79, tok_80, tok_81, tok_82, tok_83, tok_84, tok_85, tok_86, tok_87, tok_88, tok_89, tok_90, tok_91, tok_92, tok_93, tok_94, tok_95, tok_96, tok_97, tok_98, tok_99, tok_100, tok_101, tok_102, tok_103, tok_104, tok_105, tok_106, tok_107, tok_108, tok_109, tok_110, tok_111, tok_112, tok_113, tok_114, tok_115, tok_116, tok_117, tok_118, tok_119, tok_120, tok_121, tok_122, tok_123, tok_124, tok_125, tok_126, tok_127, tok_128, tok_129, tok_130, tok_131, tok_132, tok_133, tok_134, tok_135, tok_136, tok_137, tok_138, tok_139, tok_140, trivial⟩
theorem hD (t : TypeId) : TOk Tryd.prog t (D t) := by have h := allT_get tabD 0 t allT; rwa [Nat.zero_add] at h
theorem hmix : Tryd.prog.follows .mixedOrders = true := by kernel_rfl
theorem D_all : D t_int64 = ⟨(.int .i64), 1, 8, .int .i64 0⟩ ∧ D t_int = ⟨(.int .i64), 1, 8, .int .i64 0⟩ ∧ D t_bool = ⟨.bool, 1, 1, .bool false⟩ ∧ D t_uint8 = ⟨(.int .u8), 1, 1, .int .u8 0⟩ ∧ D t_abi_BoundsErrorCode = ⟨(.int .u8), 1, 1, .int .u8 0⟩ ∧ D t_struct___x_int64__y_int__signed_bool__code_abi_BoundsErrorCode__ = ⟨(.struct [(0, t_int64), (1, t_int), (2, t_bool), (3, t_abi_BoundsErrorCode)]), 4, 24, .agg ⟨[.int .i64 0, .int .i64 0, .bool false, .int .u8 0]⟩⟩ ∧ D t_runtime_boundsError = ⟨(.struct [(0, t_int64), (1, t_int), (2, t_bool), (3, t_abi_BoundsErrorCode)]), 4, 24, .agg ⟨[.int .i64 0, .int .i64 0, .bool false, .int .u8 0]⟩⟩ ∧ D t_string = ⟨.str, 1, 16, .string ⟨⟨[]⟩⟩⟩ ∧ D t_runtime_errorString = ⟨.str, 1, 16, .string ⟨⟨[]⟩⟩⟩ ∧ D t_runtime_plainError = ⟨.str, 1, 16, .string ⟨⟨[]⟩⟩⟩ ∧ D t_uintptr = ⟨(.int .u64), 1, 8, .int .u64 0⟩ ∧ D t_struct___msg_string__addr_uintptr__ = ⟨(.struct [(0, t_string), (1, t_uintptr)]), 2, 24, .agg ⟨[.string ⟨⟨[]⟩⟩, .int .u64 0]⟩⟩ ∧ D t_runtime_errorAddressString = ⟨(.struct [(0, t_string), (1, t_uintptr)]), 2, 24, .agg ⟨[.string ⟨⟨[]⟩⟩, .int .u64 0]⟩⟩ ∧ D t_struct___typ_P_abi_Type__ = ⟨(.struct [(0, t_P_abi_Type)]), 1, 8, .agg ⟨[.pointer none]⟩⟩ ∧ D t_maps_unhashableTypeError = ⟨(.struct [(0, t_P_abi_Type)]), 1, 8, .agg ⟨[.pointer none]⟩⟩ ∧ D t_int32 = ⟨(.int .i32), 1, 4, .int .i32 0⟩ ∧ D t_L_string = ⟨(.slice t_string), 1, 24, .slice none 0 0⟩ ∧ D t_L_api_Val = ⟨(.slice t_api_Val), 1, 24, .slice none 0 0⟩ ∧ D t_L_api_Node = ⟨(.slice t_api_Node), 1, 24, .slice none 0 0⟩ ∧ D t_api_Val = ⟨(.slice t_api_Node), 1, 24, .slice none 0 0⟩ ∧ D t_api_Errno = ⟨(.int .i64), 1, 8, .int .i64 0⟩ ∧ D t_struct___Kind_int__Many_int__Name_string__S_string__Neg_bool__E_int__ = ⟨(.struct [(0, t_int), (1, t_int), (2, t_string), (3, t_string), (4, t_bool), (5, t_int)]), 6, 64, .agg ⟨[.int .i64 0, .int .i64 0, .string ⟨⟨[]⟩⟩, .string ⟨⟨[]⟩⟩, .bool false, .int .i64 0]⟩⟩ ∧ D t_api_Node = ⟨(.struct [(0, t_int), (1, t_int), (2, t_string), (3, t_string), (4, t_bool), (5, t_int)]), 6, 64, .agg ⟨[.int .i64 0, .int .i64 0, .string ⟨⟨[]⟩⟩, .string ⟨⟨[]⟩⟩, .bool false, .int .i64 0]⟩⟩ ∧ D t_map_string_api_Val = ⟨(.map t_string t_api_Val), 1, 8, .map none⟩ ∧ D t_L_bool = ⟨(.slice t_bool), 1, 24, .slice none 0 0⟩ ∧ D t_struct___kind_int__left_int__first_bool__last_string__ = ⟨(.struct [(0, t_int), (1, t_int), (2, t_bool), (3, t_string)]), 4, 40, .agg ⟨[.int .i64 0, .int .i64 0, .bool false, .string ⟨⟨[]⟩⟩]⟩⟩ ∧ D t_val_open = ⟨(.struct [(0, t_int), (1, t_int), (2, t_bool), (3, t_string)]), 4, 40, .agg ⟨[.int .i64 0, .int .i64 0, .bool false, .string ⟨⟨[]⟩⟩]⟩⟩ ∧ D t_L_val_open = ⟨(.slice t_val_open), 1, 24, .slice none 0 0⟩ ∧ D t__256_uint8 = ⟨(.array 256 t_uint8), 256, 256, .agg ⟨[.int .u8 0, .int .u8 0, .int .u8 0, .int .u8 0, .int .u8 0, .int .u8 0, .int .u8 0, .int .u8 0, .int .u8 0, .int .u8 0, .int .u8 0, .int .u8 0, .int .u8 0, .int .u8 0, .int .u8 0, .int .u8 0, .int .u8 0, .int .u8 0, .int .u8 0, .int .u8 0, .int .u8 0, .int .u8 0, .int .u8 0, .int .u8 0, .int .u8 0, .int .u8 0, .int .u8 0, .int .u8 0, .int .u8 0, .int .u8 0, .int .u8 0, .int .u8 0, .int .u8 0, .int .u8 0, .int .u8 0, .int .u8 0, .int .u8 0, .int .u8 0, .int .u8 0, .int .u8 0, .int .u8 0, .int .u8 0, .int .u8 0, .int .u8 0, .int .u8 0, .int .u8 0, .int .u8 0, .int .u8 0, .int .u8 0, .int .u8 0, .int .u8 0, .int .u8 0, .int .u8 0, .int .u8 0, .int .u8 0, .int .u8 0, .int .u8 0, .int .u8 0, .int .u8 0, .int .u8 0, .int .u8 0, .int .u8 0, .int .u8 0, .int .u8 0, .int .u8 0, .int .u8 0, .int .u8 0, .int .u8 0, .int .u8 0, .int .u8 0, .int .u8 0, .int .u8 0, .int .u8 0, .int .u8 0, .int .u8 0, .int .u8 0, .int .u8 0, .int .u8 0, .int .u8 0, .int .u8 0, .int .u8 0, .int .u8 0, .int .u8 0, .int .u8 0, .int .u8 0, .int .u8 0, .int .u8 0, .int .u8 0, .int .u8 0, .int .u8 0, .int .u8 0, .int .u8 0, .int .u8 0, .int .u8 0, .int .u8 0, .int .u8 0, .int .u8 0, .int .u8 0, .int .u8 0, .int .u8 0, .int .u8 0, .int .u8 0, .int .u8 0, .int .u8 0, .int .u8 0, .int .u8 0, .int .u8 0, .int .u8 0, .int .u8 0, .int .u8 0, .int .u8 0, .int .u8 0, .int .u8 0, .int .u8 0, .int .u8 0, .int .u8 0, .int .u8 0, .int .u8 0, .int .u8 0, .int .u8 0, .int .u8 0, .int .u8 0, .int .u8 0, .int .u8 0, .int .u8 0, .int .u8 0, .int .u8 0, .int .u8 0, .int .u8 0, .int .u8 0, .int .u8 0, .int .u8 0, .int .u8 0, .int .u8 0, .int .u8 0, .int .u8 0, .int .u8 0, .int .u8 0, .int .u8 0, .int .u8 0, .int .u8 0, .int .u8 0, .int .u8 0, .int .u8 0, .int .u8 0, .int .u8 0, .int .u8 0, .int .u8 0, .int .u8 0, .int .u8 0, .int .u8 0, .int .u8 0, .int .u8 0, .int .u8 0, .int .u8 0, .int .u8 0, .int .u8 0, .int .u8 0, .int .u8 0, .int .u8 0, .int .u8 0, .int .u8 0, .int .u8 0, .int .u8 0, .int .u8 0, .int .u8 0, .int .u8 0, .int .u8 0, .int .u8 0, .int .u8 0, .int .u8 0, .int .u8 0, .int .u8 0, .int .u8 0, .int .u8 0, .int .u8 0, .int .u8 0, .int .u8 0, .int .u8 0, .int .u8 0, .int .u8 0, .int .u8 0, .int .u8 0, .int .u8 0, .int .u8 0, .int .u8 0, .int .u8 0, .int .u8 0, .int .u8 0, .int .u8 0, .int .u8 0, .int .u8 0, .int .u8 0, .int .u8 0, .int .u8 0, .int .u8 0, .int .u8 0, .int .u8 0, .int .u8 0, .int .u8 0, .int .u8 0, .int .u8 0, .int .u8 0, .int .u8 0, .int .u8 0, .int .u8 0, .int .u8 0, .int .u8 0, .int .u8 0, .int .u8 0, .int .u8 0, .int .u8 0, .int .u8 0, .int .u8 0, .int .u8 0, .int .u8 0, .int .u8 0, .int .u8 0, .int .u8 0, .int .u8 0, .int .u8 0, .int .u8 0, .int .u8 0, .int .u8 0, .int .u8 0, .int .u8 0, .int .u8 0, .int .u8 0, .int .u8 0, .int .u8 0, .int .u8 0, .int .u8 0, .int .u8 0, .int .u8 0, .int .u8 0, .int .u8 0, .int .u8 0, .int .u8 0, .int .u8 0, .int .u8 0, .int .u8 0, .int .u8 0, .int .u8 0, .int .u8 0, .int .u8 0, .int .u8 0, .int .u8 0, .int .u8 0, .int .u8 0, .int .u8 0, .int .u8 0, .int .u8 0, .int .u8 0, .int .u8 0, .int .u8 0, .int .u8 0]⟩⟩ ∧ D t_struct___lo_uint8__hi_uint8__ = ⟨(.struct [(0, t_uint8), (1, t_uint8)]), 2, 2, .agg ⟨[.int .u8 0, .int .u8 0]⟩⟩ ∧ D t_utf8_acceptRange = ⟨(.struct [(0, t_uint8), (1, t_uint8)]), 2, 2, .agg ⟨[.int .u8 0, .int .u8 0]⟩⟩ ∧ D t__16_utf8_acceptRange = ⟨(.array 16 t_utf8_acceptRange), 32, 32, .agg ⟨[.int .u8 0, .int .u8 0, .int .u8 0, .int .u8 0, .int .u8 0, .int .u8 0, .int .u8 0, .int .u8 0, .int .u8 0, .int .u8 0, .int .u8 0, .int .u8 0, .int .u8 0, .int .u8 0, .int .u8 0, .int .u8 0, .int .u8 0, .int .u8 0, .int .u8 0, .int .u8 0, .int .u8 0, .int .u8 0, .int .u8 0, .int .u8 0, .int .u8 0, .int .u8 0, .int .u8 0, .int .u8 0, .int .u8 0, .int .u8 0, .int .u8 0, .int .u8 0]⟩⟩ ∧ D t_uint = ⟨(.int .u64), 1, 8, .int .u64 0⟩ ∧ D t_uint64 = ⟨(.int .u64), 1, 8, .int .u64 0⟩ ∧ D t_slices_sortedHint = ⟨(.int .i64), 1, 8, .int .i64 0⟩ ∧ D t_uint32 = ⟨(.int .u32), 1, 4, .int .u32 0⟩ ∧ D t__256_bool = ⟨(.array 256 t_bool), 256, 256, .agg ⟨[.bool false, .bool false, .bool false, .bool false, .bool false, .bool false, .bool false, .bool false, .bool false, .bool false, .bool false, .bool false, .bool false, .bool false, .bool false, .bool false, .bool false, .bool false, .bool false, .bool false, .bool false, .bool false, .bool false, .bool false, .bool false, .bool false, .bool false, .bool false, .bool false, .bool false, .bool false, .bool false, .bool false, .bool false, .bool false, .bool false, .bool false, .bool false, .bool false, .bool false, .bool false, .bool false, .bool false, .bool false, .bool false, .bool false, .bool false, .bool false, .bool false, .bool false, .bool false, .bool false, .bool false, .bool false, .bool false, .bool false, .bool false, .bool false, .bool false, .bool false, .bool false, .bool false, .bool false, .bool false, .bool false, .bool false, .bool false, .bool false, .bool false, .bool false, .bool false, .bool false, .bool false, .bool false, .bool false, .bool false, .bool false, .bool false, .bool false, .bool false, .bool false, .bool false, .bool false, .bool false, .bool false, .bool false, .bool false, .bool false, .bool false, .bool false, .bool false, .bool false, .bool false, .bool false, .bool false, .bool false, .bool false, .bool false, .bool false, .bool false, .bool false, .bool false, .bool false, .bool false, .bool false, .bool false, .bool false, .bool false, .bool false, .bool false, .bool false, .bool false, .bool false, .bool false, .bool false, .bool false, .bool false, .bool false, .bool false, .bool false, .bool false, .bool false, .bool false, .bool false, .bool false, .bool false, .bool false, .bool false, .bool false, .bool false, .bool false, .bool false, .bool false, .bool false, .bool false, .bool false, .bool false, .bool false, .bool false, .bool false, .bool false, .bool false, .bool false, .bool false, .bool false, .bool false, .bool false, .bool false, .bool false, .bool false, .bool false, .bool false, .bool false, .bool false, .bool false, .bool false, .bool false, .bool false, .bool false, .bool false, .bool false, .bool false, .bool false, .bool false, .bool false, .bool false, .bool false, .bool false, .bool false, .bool false, .bool false, .bool false, .bool false, .bool false, .bool false, .bool false, .bool false, .bool false, .bool false, .bool false, .bool false, .bool false, .bool false, .bool false, .bool false, .bool false, .bool false, .bool false, .bool false, .bool false, .bool false, .bool false, .bool false, .bool false, .bool false, .bool false, .bool false, .bool false, .bool false, .bool false, .bool false, .bool false, .bool false, .bool false, .bool false, .bool false, .bool false, .bool false, .bool false, .bool false, .bool false, .bool false, .bool false, .bool false, .bool false, .bool false, .bool false, .bool false, .bool false, .bool false, .bool false, .bool false, .bool false, .bool false, .bool false, .bool false, .bool false, .bool false, .bool false, .bool false, .bool false, .bool false, .bool false, .bool false, .bool false, .bool false, .bool false, .bool false, .bool false, .bool false, .bool false, .bool false, .bool false, .bool false, .bool false, .bool false, .bool false, .bool false, .bool false, .bool false, .bool false, .bool false, .bool false, .bool false, .bool false, .bool false]⟩⟩ ∧ D t_strings_asciiSet = ⟨(.array 256 t_bool), 256, 256, .agg ⟨[.bool false, .bool false, .bool false, .bool false, .bool false, .bool false, .bool false, .bool false, .bool false, .bool false, .bool false, .bool false, .bool false, .bool false, .bool false, .bool false, .bool false, .bool false, .bool false, .bool false, .bool false, .bool false, .bool false, .bool false, .bool false, .bool false, .bool false, .bool false, .bool false, .bool false, .bool false, .bool false, .bool false, .bool false, .bool false, .bool false, .bool false, .bool false, .bool false, .bool false, .bool false, .bool false, .bool false, .bool false, .bool false, .bool false, .bool false, .bool false, .bool false, .bool false, .bool false, .bool false, .bool false, .bool false, .bool false, .bool false, .bool false, .bool false, .bool false, .bool false, .bool false, .bool false, .bool false, .bool false, .bool false, .bool false, .bool false, .bool false, .bool false, .bool false, .bool false, .bool false, .bool false, .bool false, .bool false, .bool false, .bool false, .bool false, .bool false, .bool false, .bool false, .bool false, .bool false, .bool false, .bool false, .bool false, .bool false, .bool false, .bool false, .bool false, .bool false, .bool false, .bool false, .bool false, .bool false, .bool false, .bool false, .bool false, .bool false, .bool false, .bool false, .bool false, .bool false, .bool false, .bool false, .bool false, .bool false, .bool false, .bool false, .bool false, .bool false, .bool false, .bool false, .bool false, .bool false, .bool false, .bool false, .bool false, .bool false, .bool false, .bool false, .bool false, .bool false, .bool false, .bool false, .bool false, .bool false, .bool false, .bool false, .bool false, .bool false, .bool false, .bool false, .bool false, .bool false, .bool false, .bool false, .bool false, .bool false, .bool false, .bool false, .bool false, .bool false, .bool false, .bool false, .bool false, .bool false, .bool false, .bool false, .bool false, .bool false, .bool false, .bool false, .bool false, .bool false, .bool false, .bool false, .bool false, .bool false, .bool false, .bool false, .bool false, .bool false, .bool false, .bool false, .bool false, .bool false, .bool false, .bool false, .bool false, .bool false, .bool false, .bool false, .bool false, .bool false, .bool false, .bool false, .bool false, .bool false, .bool false, .bool false, .bool false, .bool false, .bool false, .bool false, .bool false, .bool false, .bool false, .bool false, .bool false, .bool false, .bool false, .bool false, .bool false, .bool false, .bool false, .bool false, .bool false, .bool false, .bool false, .bool false, .bool false, .bool false, .bool false, .bool false, .bool false, .bool false, .bool false, .bool false, .bool false, .bool false, .bool false, .bool false, .bool false, .bool false, .bool false, .bool false, .bool false, .bool false, .bool false, .bool false, .bool false, .bool false, .bool false, .bool false, .bool false, .bool false, .bool false, .bool false, .bool false, .bool false, .bool false, .bool false, .bool false, .bool false, .bool false, .bool false, .bool false, .bool false, .bool false, .bool false, .bool false, .bool false, .bool false, .bool false, .bool false, .bool false, .bool false, .bool false, .bool false, .bool false, .bool false, .bool false, .bool false, .bool false, .bool false]⟩⟩ ∧ D t_slices_xorshift = ⟨(.int .u64), 1, 8, .int .u64 0⟩ ∧ D t_struct____interface_P_abi_Type__concrete_P_abi_Type__asserted_P_abi_Type__missingMethod_string__ = ⟨(.struct [(0, t_P_abi_Type), (1, t_P_abi_Type), (2, t_P_abi_Type), (3, t_string)]), 4, 40, .agg ⟨[.pointer none, .pointer none, .pointer none, .string ⟨⟨[]⟩⟩]⟩⟩ ∧ D t_runtime_TypeAssertionError = ⟨(.struct [(0, t_P_abi_Type), (1, t_P_abi_Type), (2, t_P_abi_Type), (3, t_string)]), 4, 40, .agg ⟨[.pointer none, .pointer none, .pointer none, .string ⟨⟨[]⟩⟩]⟩⟩ ∧ D t__0_P_runtime_PanicNilError = ⟨(.array 0 t_P_runtime_PanicNilError), 0, 0, .agg ⟨[]⟩⟩ ∧ D t_struct______0_P_runtime_PanicNilError__ = ⟨(.struct [(0, t__0_P_runtime_PanicNilError)]), 0, 0, .agg ⟨[]⟩⟩ ∧ D t_runtime_PanicNilError = ⟨(.struct [(0, t__0_P_runtime_PanicNilError)]), 0, 0, .agg ⟨[]⟩⟩ ∧ D t_abi_TFlag = ⟨(.int .u8), 1, 1, .int .u8 0⟩ ∧ D t_abi_Kind = ⟨(.int .u8), 1, 1, .int .u8 0⟩ ∧ D t_abi_NameOff = ⟨(.int .i32), 1, 4, .int .i32 0⟩ ∧ D t_abi_TypeOff = ⟨(.int .i32), 1, 4, .int .i32 0⟩ ∧ D t_struct___Size__uintptr__PtrBytes_uintptr__Hash_uint32__TFlag_abi_TFlag__Align__uint8__FieldAlign__uint8__Kind__abi_Kind__Equal_func_unsafe_Pointer__unsafe_Pointer__bool__GCData_P_uint8__Str_abi_NameOff__PtrToThis_abi_TypeOff__ = ⟨(.struct [(0, t_uintptr), (1, t_uintptr), (2, t_uint32), (3, t_abi_TFlag), (4, t_uint8), (5, t_uint8), (6, t_abi_Kind), (7, t_func_unsafe_Pointer__unsafe_Pointer__bool), (8, t_P_uint8), (9, t_abi_NameOff), (10, t_abi_TypeOff)]), 11, 48, .agg ⟨[.int .u64 0, .int .u64 0, .int .u32 0, .int .u8 0, .int .u8 0, .int .u8 0, .int .u8 0, .nilFunc, .pointer none, .int .i32 0, .int .i32 0]⟩⟩ ∧ D t_abi_Type = ⟨(.struct [(0, t_uintptr), (1, t_uintptr), (2, t_uint32), (3, t_abi_TFlag), (4, t_uint8), (5, t_uint8), (6, t_abi_Kind), (7, t_func_unsafe_Pointer__unsafe_Pointer__bool), (8, t_P_uint8), (9, t_abi_NameOff), (10, t_abi_TypeOff)]), 11, 48, .agg ⟨[.int .u64 0, .int .u64 0, .int .u32 0, .int .u8 0, .int .u8 0, .int .u8 0, .int .u8 0, .nilFunc, .pointer none, .int .i32 0, .int .i32 0]⟩⟩ := by (repeat' constructor) <;> rfl
theorem F_all : f_main_main = 0 ∧ f_gosem_cut = 1 ∧ f_gosem_cut_init = 2 ∧ f_loupelaw02_ValMakes = 3 ∧ f_loupelaw02_ValOrder = 4 ∧ f_loupelaw02_ValTells = 5 ∧ f_loupelaw02_ValBack = 6 ∧ f_louperef02_All = 7 ∧ f_loupelaw02_alive = 8 ∧ f_val_Object = 9 ∧ f_louperef02_Object = 10 ∧ f_louperef02_Same = 11 ∧ f_val_List = 12 ∧ f_louperef02_List = 13 ∧ f_val_Parts = 14 ∧ f_louperef02_Right = 15 ∧ f_val_Right = 16 ∧ f_val_Same = 17 ∧ f_val_Depth = 18 ∧ f_louperef02_Depth = 19 ∧ f_louperef02_Lists = 20 ∧ f_louperef02_Parts = 21 ∧ f_louperef02_Texts = 22 ∧ f_val_Names = 23 ∧ f_louperef02_Names = 24 ∧ f_louperef02_Few = 25 ∧ f_val_Field = 26 ∧ f_unicode_utf8_ValidString = 27 ∧ f_slices_Sorted_string_ = 28 ∧ f_slices_Values_L_string_string_ = 29 ∧ f_val_laid = 30 ∧ f_louperef02_Utf = 31 ∧ f_louperef02_named = 32 ∧ f_slices_Concat_api_Val_api_Node_ = 33 ∧ f_val_each = 34 ∧ f_louperef02_Next = 35 ∧ f_louperef02_plain = 36 ∧ f_louperef02_rising = 37 ∧ f_val_isPlain = 38 ∧ f_slices_ContainsFunc_L_val_open_val_open_ = 39 ∧ f_val_Right_1 = 40 ∧ f_slices_Equal_api_Val_api_Node_ = 41 ∧ f_louperef02_own = 42 ∧ f_unicode_utf8_word_string_ = 43 ∧ f_slices_Collect_string_ = 44 ∧ f_slices_Sort_L_string_string_ = 45 ∧ f_slices_Values_L_string_string__1 = 46 ∧ f_louperef02_Rune = 47 ∧ f_slices_Grow_api_Val_api_Node_ = 48 ∧ f_val_each_1 = 49 ∧ f_val_behind = 50 ∧ f_slices_Clone_api_Val_api_Node_ = 51 ∧ f_louperef01_Right = 52 ∧ f_num_Right = 53 ∧ f_slices_IndexFunc_L_val_open_val_open_ = 54 ∧ f_slices_AppendSeq_L_string_string_ = 55 ∧ f_slices_pdqsortOrdered_string_ = 56 ∧ f_math_bits_Len = 57 ∧ f_louperef02_cont = 58 ∧ f_louperef01_figures = 59 ∧ f_num_isPower = 60 ∧ f_num_isFigures = 61 ∧ f_strings_Trim = 62 ∧ f_slices_insertionSortOrdered_string_ = 63 ∧ f_slices_heapSortOrdered_string_ = 64 ∧ f_slices_breakPatternsOrdered_string_ = 65 ∧ f_slices_choosePivotOrdered_string_ = 66 ∧ f_slices_reverseRangeOrdered_string_ = 67 ∧ f_slices_partialInsertionSortOrdered_string_ = 68 ∧ f_cmp_Less_string_ = 69 ∧ f_slices_partitionEqualOrdered_string_ = 70 ∧ f_slices_partitionOrdered_string_ = 71 ∧ f_math_bits_Len32 = 72 ∧ f_math_bits_Len64 = 73 ∧ f_strings_TrimFunc = 74 ∧ f_num_isFigure = 75 ∧ f_strings_trimLeftByte = 76 ∧ f_strings_trimRightByte = 77 ∧ f_strings_makeASCIISet = 78 ∧ f_strings_trimLeftASCII = 79 ∧ f_strings_trimRightASCII = 80 ∧ f_strings_trimLeftUnicode = 81 ∧ f_strings_trimRightUnicode = 82 ∧ f_slices_siftDownOrdered_string_ = 83 ∧ f_slices_nextPowerOfTwo = 84 ∧ f__P_slices_xorshift__Next = 85 ∧ f_slices_medianAdjacentOrdered_string_ = 86 ∧ f_slices_medianOrdered_string_ = 87 ∧ f_cmp_isNaN_string_ = 88 ∧ f_strings_TrimRightFunc = 89 ∧ f_strings_TrimLeftFunc = 90 ∧ f__P_strings_asciiSet__contains = 91 ∧ f_unicode_utf8_DecodeRuneInString = 92 ∧ f_strings_ContainsRune = 93 ∧ f_unicode_utf8_DecodeLastRuneInString = 94 ∧ f_slices_order2Ordered_string_ = 95 ∧ f_strings_lastIndexFunc = 96 ∧ f_strings_indexFunc = 97 ∧ f_unicode_utf8_decodeRuneInStringSlow = 98 ∧ f_strings_IndexRune = 99 ∧ f_unicode_utf8_RuneStart = 100 ∧ f_strings_IndexByte = 101 ∧ f_unicode_utf8_ValidRune = 102 ∧ f_bytealg_Cutover = 103 ∧ f_bytealg_IndexString = 104 ∧ f_stringslite_IndexByte = 105 ∧ f_bytealg_IndexByteString = 106 ∧ f__runtime_boundsError__Error = 107 ∧ f__runtime_boundsError__RuntimeError = 108 ∧ f__runtime_errorString__Error = 109 ∧ f__runtime_errorString__RuntimeError = 110 ∧ f__runtime_plainError__Error = 111 ∧ f__runtime_plainError__RuntimeError = 112 ∧ f__runtime_errorAddressString__Error = 113 ∧ f__runtime_errorAddressString__RuntimeError = 114 ∧ f__P_runtime_TypeAssertionError__Error = 115 ∧ f__P_runtime_TypeAssertionError__RuntimeError = 116 ∧ f__P_runtime_PanicNilError__Error = 117 ∧ f__P_runtime_PanicNilError__RuntimeError = 118 ∧ f__P_abi_Type__Align = 119 ∧ f__runtime_maps_unhashableTypeError__Error = 120 ∧ f__runtime_maps_unhashableTypeError__RuntimeError = 121 ∧ f__abi_Kind__String = 122 ∧ f_var_s_door__gosem_cut_vars_holds_initialisers_alone__see_the_manifest_s_row_cutvarsword__look_11__test_files_too_ = 123 ∧ f_var_s_door__the_look_of_gosem_cut_vars_went_over_the_folder_that_the_caller_named_as_the_repository_s_root__look_11_ = 124 ∧ f_var_s_door__unicode_utf8_acceptRanges_is_laid_by_its_own_initialiser__plain_data__look_11_ = 125 ∧ f_var_s_door__unicode_utf8_first_is_laid_by_its_text_alone__pinned_1_ = 126 ∧ f_gosem_cut_vars = 127 := by (repeat' constructor) <;> rfl
end Lp

/-! LpC1 -/

namespace Lp
open Go Go.Proofs
def c_louperef02_Few : LC :=
  (.seq (.reg [⟨some 4, .assign (.const (.bool false)), none, false⟩])
  (.seq (.seq (.reg [⟨some 6, .move (.tmp 0), none, false⟩,
   ⟨some 7, .call ⟨.builtin .len, ⟨[(.tmp 6)]⟩, ⟨[t_api_Val]⟩⟩, none, false⟩,
   ⟨some 8, .move (.tmp 1), none, false⟩,
   ⟨some 9, .binOp .gtr t_int (.tmp 7) (.tmp 8) t_int, none, false⟩])
  (.cond (.tmp 9)
   (.seq (.reg [⟨some 4, .assign (.const (.bool false)), none, false⟩])
   .ret)
   .skip))
  (.seq (.seq (.reg [⟨some 5, .assign (.const (.int .i64 0)), none, false⟩])
  (.block 0 (.loop [true, false, false, false, false, true, false, false, false, false, false, false, false, false, false, false, false, false, false, false, false, false, false, false, false, false, false, false, false, false, false, false, false, false] none
   (.seq (.seq (.reg [⟨some 10, .move (.tmp 5), none, false⟩,
     ⟨some 11, .move (.tmp 0), none, false⟩,
     ⟨some 12, .call ⟨.builtin .len, ⟨[(.tmp 11)]⟩, ⟨[t_api_Val]⟩⟩, none, false⟩,
     ⟨some 13, .binOp .lss t_int (.tmp 10) (.tmp 12) t_int, none, false⟩])
    (.cond (.tmp 13)
     .skip
     (.exit 0)))
    (.seq (.block 1 (.seq (.reg [⟨some 16, .move (.tmp 0), none, false⟩,
      ⟨some 17, .move (.tmp 5), none, false⟩,
      ⟨some 18, .indexAddr t_api_Val (.tmp 16) (.tmp 17), none, false⟩,
      ⟨some 19, .fieldAddr t_api_Node (.tmp 18) 3, none, false⟩,
      ⟨some 20, .load t_string (.tmp 19), none, false⟩,
      ⟨some 21, .call ⟨.builtin .len, ⟨[(.tmp 20)]⟩, ⟨[t_string]⟩⟩, none, false⟩,
      ⟨some 22, .binOp .gtr t_int (.tmp 21) (.const (.int .i64 200)) t_int, none, false⟩,
      ⟨some 23, .move (.tmp 22), none, false⟩,
      ⟨some 24, .move (.tmp 0), some (some 23, false), false⟩,
      ⟨some 25, .move (.tmp 5), some (some 23, false), false⟩,
      ⟨some 26, .indexAddr t_api_Val (.tmp 24) (.tmp 25), some (some 23, false), false⟩,
      ⟨some 27, .fieldAddr t_api_Node (.tmp 26) 2, some (some 23, false), false⟩,
      ⟨some 28, .load t_string (.tmp 27), some (some 23, false), false⟩,
      ⟨some 29, .call ⟨.builtin .len, ⟨[(.tmp 28)]⟩, ⟨[t_string]⟩⟩, some (some 23, false), false⟩,
      ⟨some 30, .binOp .gtr t_int (.tmp 29) (.const (.int .i64 200)) t_int, some (some 23, false), false⟩,
      ⟨some 31, .pick (.tmp 23) (.const (.bool true)) (.tmp 30), none, false⟩])
     (.cond (.tmp 31)
      (.seq (.reg [⟨some 4, .assign (.const (.bool false)), none, false⟩])
      .ret)
      .skip)))
    (.reg [⟨some 14, .move (.tmp 5), none, false⟩,
     ⟨some 15, .binOp .add t_int (.tmp 14) (.const (.int .i64 1)) t_int, none, false⟩,
     ⟨some 5, .assign (.tmp 15), none, false⟩]))))))
  (.seq (.reg [⟨some 32, .move (.tmp 0), none, false⟩,
   ⟨some 33, .call ⟨.value (.func f_louperef02_Right), ⟨[(.tmp 32)]⟩, ⟨[t_api_Val]⟩⟩, none, false⟩,
   ⟨some 4, .assign (.tmp 33), none, false⟩])
  .ret))))
theorem k_louperef02_Few : FnOk Tryd.prog f_louperef02_Few 34 [.tmp 4] c_louperef02_Few := ⟨_, _, Tryd.func25, by kernel_rfl, rfl, Tryd.ntmps25, rfl, by kernel_rfl⟩

def c_louperef02_All : LC :=
  (.seq (.reg [⟨some 4, .assign (.const (.bool false)), none, false⟩])
  (.seq (.reg [⟨some 7, .move (.tmp 0), none, false⟩,
   ⟨some 8, .call ⟨.builtin .len, ⟨[(.tmp 7)]⟩, ⟨[t_L_api_Val]⟩⟩, none, false⟩,
   ⟨some 5, .assign (.tmp 8), none, false⟩])
  (.seq (.seq (.reg [⟨some 6, .assign (.const (.int .i64 0)), none, false⟩])
  (.block 0 (.loop [true, true, false, false, false, true, true, false, false, false, false, false, false, false, false, false, false, false, false, false, false, false, false, false, false, false, false, false, false, false, false, false, false, false, false, false, false] none
   (.seq (.seq (.reg [⟨some 9, .move (.tmp 6), none, false⟩,
     ⟨some 10, .move (.tmp 0), none, false⟩,
     ⟨some 11, .call ⟨.builtin .len, ⟨[(.tmp 10)]⟩, ⟨[t_L_api_Val]⟩⟩, none, false⟩,
     ⟨some 12, .binOp .lss t_int (.tmp 9) (.tmp 11) t_int, none, false⟩])
    (.cond (.tmp 12)
     .skip
     (.exit 0)))
    (.seq (.block 1 (.seq (.reg [⟨some 15, .move (.tmp 5), none, false⟩,
      ⟨some 16, .move (.tmp 0), none, false⟩,
      ⟨some 17, .move (.tmp 6), none, false⟩,
      ⟨some 18, .indexAddr t_L_api_Val (.tmp 16) (.tmp 17), none, false⟩,
      ⟨some 19, .load t_api_Val (.tmp 18), none, false⟩,
      ⟨some 20, .call ⟨.builtin .len, ⟨[(.tmp 19)]⟩, ⟨[t_api_Val]⟩⟩, none, false⟩,
      ⟨some 21, .binOp .add t_int (.tmp 15) (.tmp 20) t_int, none, false⟩,
      ⟨some 5, .assign (.tmp 21), none, false⟩])
     (.seq (.reg [⟨some 22, .move (.tmp 5), none, false⟩,
      ⟨some 23, .move (.tmp 1), none, false⟩,
      ⟨some 24, .binOp .gtr t_int (.tmp 22) (.tmp 23) t_int, none, false⟩,
      ⟨some 25, .move (.tmp 24), none, false⟩,
      ⟨some 26, .move (.tmp 0), some (some 25, false), false⟩,
      ⟨some 27, .move (.tmp 6), some (some 25, false), false⟩,
      ⟨some 28, .indexAddr t_L_api_Val (.tmp 26) (.tmp 27), some (some 25, false), false⟩,
      ⟨some 29, .load t_api_Val (.tmp 28), some (some 25, false), false⟩,
      ⟨some 30, .move (.tmp 1), some (some 25, false), false⟩,
      ⟨some 31, .call ⟨.value (.func f_louperef02_Few), ⟨[(.tmp 29), (.tmp 30)]⟩, ⟨[t_api_Val, t_int]⟩⟩, some (some 25, false), false⟩,
      ⟨some 32, .unOp .not t_bool (.tmp 31), some (some 25, false), false⟩,
      ⟨some 33, .pick (.tmp 25) (.const (.bool true)) (.tmp 32), none, false⟩])
     (.cond (.tmp 33)
      (.seq (.reg [⟨some 4, .assign (.const (.bool false)), none, false⟩])
      .ret)
      .skip))))
    (.reg [⟨some 13, .move (.tmp 6), none, false⟩,
     ⟨some 14, .binOp .add t_int (.tmp 13) (.const (.int .i64 1)) t_int, none, false⟩,
     ⟨some 6, .assign (.tmp 14), none, false⟩]))))))
  (.seq (.reg [⟨some 34, .move (.tmp 5), none, false⟩,
   ⟨some 35, .move (.tmp 1), none, false⟩,
   ⟨some 36, .binOp .leq t_int (.tmp 34) (.tmp 35) t_int, none, false⟩,
   ⟨some 4, .assign (.tmp 36), none, false⟩])
  .ret))))
theorem k_louperef02_All : FnOk Tryd.prog f_louperef02_All 37 [.tmp 4] c_louperef02_All := ⟨_, _, Tryd.func7, by kernel_rfl, rfl, Tryd.ntmps7, rfl, by kernel_rfl⟩

def c_louperef02_Same : LC :=
  (.seq (.reg [⟨some 4, .assign (.const (.bool false)), none, false⟩])
  (.seq (.seq (.reg [⟨some 6, .move (.tmp 0), none, false⟩,
   ⟨some 7, .call ⟨.builtin .len, ⟨[(.tmp 6)]⟩, ⟨[t_api_Val]⟩⟩, none, false⟩,
   ⟨some 8, .move (.tmp 1), none, false⟩,
   ⟨some 9, .call ⟨.builtin .len, ⟨[(.tmp 8)]⟩, ⟨[t_api_Val]⟩⟩, none, false⟩,
   ⟨some 10, .binOp .neq t_int (.tmp 7) (.tmp 9) t_int, none, false⟩])
  (.cond (.tmp 10)
   (.seq (.reg [⟨some 4, .assign (.const (.bool false)), none, false⟩])
   .ret)
   .skip))
  (.seq (.seq (.reg [⟨some 5, .assign (.const (.int .i64 0)), none, false⟩])
  (.block 0 (.loop [true, true, false, false, false, true, false, false, false, false, false, false, false, false, false, false, false, false, false, false, false, false, false, false, false, false] none
   (.seq (.seq (.reg [⟨some 11, .move (.tmp 5), none, false⟩,
     ⟨some 12, .move (.tmp 0), none, false⟩,
     ⟨some 13, .call ⟨.builtin .len, ⟨[(.tmp 12)]⟩, ⟨[t_api_Val]⟩⟩, none, false⟩,
     ⟨some 14, .binOp .lss t_int (.tmp 11) (.tmp 13) t_int, none, false⟩])
    (.cond (.tmp 14)
     .skip
     (.exit 0)))
    (.seq (.block 1 (.seq (.draw [⟨some 17, .move (.tmp 0), none, false⟩,
      ⟨some 18, .move (.tmp 5), none, false⟩,
      ⟨some 19, .indexAddr t_api_Val (.tmp 17) (.tmp 18), none, false⟩,
      ⟨some 20, .load t_api_Node (.tmp 19), none, false⟩,
      ⟨some 21, .move (.tmp 1), none, false⟩,
      ⟨some 22, .move (.tmp 5), none, false⟩,
      ⟨some 23, .indexAddr t_api_Val (.tmp 21) (.tmp 22), none, false⟩,
      ⟨some 24, .load t_api_Node (.tmp 23), none, false⟩,
      ⟨some 25, .binOp .neq t_api_Node (.tmp 20) (.tmp 24) t_api_Node, none, false⟩]
     [0, 1, 0, 0, 15, 31, 15, 15, 0])
     (.cond (.tmp 25)
      (.seq (.reg [⟨some 4, .assign (.const (.bool false)), none, false⟩])
      .ret)
      .skip)))
    (.reg [⟨some 15, .move (.tmp 5), none, false⟩,
     ⟨some 16, .binOp .add t_int (.tmp 15) (.const (.int .i64 1)) t_int, none, false⟩,
     ⟨some 5, .assign (.tmp 16), none, false⟩]))))))
  (.seq (.reg [⟨some 4, .assign (.const (.bool true)), none, false⟩])
  .ret))))
theorem k_louperef02_Same : FnOk Tryd.prog f_louperef02_Same 26 [.tmp 4] c_louperef02_Same := ⟨_, _, Tryd.func11, by kernel_rfl, rfl, Tryd.ntmps11, rfl, by kernel_rfl⟩

def c_louperef02_Utf : LC :=
  (.seq (.reg [⟨some 2, .assign (.const (.bool false)), none, false⟩])
  (.seq (.reg [⟨some 3, .assign (.const (.int .i64 0)), none, false⟩])
  (.seq (.block 0 (.loop [true, false, false, true, false, false, false, false, false, false, false, false, false, false, false, false, false] none
   (.seq (.seq (.reg [⟨some 5, .move (.tmp 3), none, false⟩,
     ⟨some 6, .move (.tmp 0), none, false⟩,
     ⟨some 7, .call ⟨.builtin .len, ⟨[(.tmp 6)]⟩, ⟨[t_string]⟩⟩, none, false⟩,
     ⟨some 8, .binOp .lss t_int (.tmp 5) (.tmp 7) t_int, none, false⟩])
    (.cond (.tmp 8)
     .skip
     (.exit 0)))
    (.block 1 (.seq (.reg [⟨some 9, .move (.tmp 0), none, false⟩,
      ⟨some 10, .move (.tmp 3), none, false⟩,
      ⟨some 11, .call ⟨.value (.func f_louperef02_Rune), ⟨[(.tmp 9), (.tmp 10)]⟩, ⟨[t_string, t_int]⟩⟩, none, false⟩,
      ⟨some 4, .assign (.tmp 11), none, false⟩])
     (.seq (.seq (.reg [⟨some 12, .move (.tmp 4), none, false⟩,
      ⟨some 13, .binOp .eql t_int (.tmp 12) (.const (.int .i64 0)) t_int, none, false⟩])
     (.cond (.tmp 13)
      (.seq (.reg [⟨some 2, .assign (.const (.bool false)), none, false⟩])
      .ret)
      .skip))
     (.reg [⟨some 14, .move (.tmp 3), none, false⟩,
      ⟨some 15, .move (.tmp 4), none, false⟩,
      ⟨some 16, .binOp .add t_int (.tmp 14) (.tmp 15) t_int, none, false⟩,
      ⟨some 3, .assign (.tmp 16), none, false⟩])))))))
  (.seq (.reg [⟨some 2, .assign (.const (.bool true)), none, false⟩])
  .ret))))
theorem k_louperef02_Utf : FnOk Tryd.prog f_louperef02_Utf 17 [.tmp 2] c_louperef02_Utf := ⟨_, _, Tryd.func31, by kernel_rfl, rfl, Tryd.ntmps31, rfl, by kernel_rfl⟩

def c_louperef02_Right : LC :=
  (.seq (.reg [⟨some 2, .assign (.const (.bool false)), none, false⟩])
  (.seq (.seq (.reg [⟨some 4, .move (.tmp 0), none, false⟩,
   ⟨some 5, .call ⟨.builtin .len, ⟨[(.tmp 4)]⟩, ⟨[t_api_Val]⟩⟩, none, false⟩,
   ⟨some 6, .binOp .eql t_int (.tmp 5) (.const (.int .i64 0)) t_int, none, false⟩,
   ⟨some 7, .move (.tmp 6), none, false⟩,
   ⟨some 8, .move (.tmp 0), some (some 7, false), false⟩,
   ⟨some 9, .indexAddr t_api_Val (.tmp 8) (.const (.int .i64 0)), some (some 7, false), false⟩,
   ⟨some 10, .fieldAddr t_api_Node (.tmp 9) 2, some (some 7, false), false⟩,
   ⟨some 11, .load t_string (.tmp 10), some (some 7, false), false⟩,
   ⟨some 12, .binOp .neq t_string (.tmp 11) (.const (.string ⟨⟨[]⟩⟩)) t_string, some (some 7, false), false⟩,
   ⟨some 13, .pick (.tmp 7) (.const (.bool true)) (.tmp 12), none, false⟩,
   ⟨some 14, .move (.tmp 13), none, false⟩,
   ⟨some 15, .move (.tmp 0), some (some 14, false), false⟩,
   ⟨some 16, .call ⟨.value (.func f_louperef02_Next), ⟨[(.tmp 15), (.const (.int .i64 0))]⟩, ⟨[t_api_Val, t_int]⟩⟩, some (some 14, false), false⟩,
   ⟨some 17, .move (.tmp 0), some (some 14, false), false⟩,
   ⟨some 18, .call ⟨.builtin .len, ⟨[(.tmp 17)]⟩, ⟨[t_api_Val]⟩⟩, some (some 14, false), false⟩,
   ⟨some 19, .binOp .neq t_int (.tmp 16) (.tmp 18) t_int, some (some 14, false), false⟩,
   ⟨some 20, .pick (.tmp 14) (.const (.bool true)) (.tmp 19), none, false⟩])
  (.cond (.tmp 20)
   (.seq (.reg [⟨some 2, .assign (.const (.bool false)), none, false⟩])
   .ret)
   .skip))
  (.seq (.seq (.reg [⟨some 3, .assign (.const (.int .i64 0)), none, false⟩])
  (.block 0 (.loop [true, false, false, true, false, false, false, false, false, false, false, false, false, false, false, false, false, false, false, false, false, false, false, false, false, false, false, false, false, false, false, false, false, false, false, false, false, false, false] none
   (.seq (.seq (.reg [⟨some 21, .move (.tmp 3), none, false⟩,
     ⟨some 22, .move (.tmp 0), none, false⟩,
     ⟨some 23, .call ⟨.builtin .len, ⟨[(.tmp 22)]⟩, ⟨[t_api_Val]⟩⟩, none, false⟩,
     ⟨some 24, .binOp .lss t_int (.tmp 21) (.tmp 23) t_int, none, false⟩])
    (.cond (.tmp 24)
     .skip
     (.exit 0)))
    (.seq (.block 1 (.seq (.reg [⟨some 27, .move (.tmp 0), none, false⟩,
      ⟨some 28, .move (.tmp 3), none, false⟩,
      ⟨some 29, .indexAddr t_api_Val (.tmp 27) (.tmp 28), none, false⟩,
      ⟨some 30, .load t_api_Node (.tmp 29), none, false⟩,
      ⟨some 31, .call ⟨.value (.func f_louperef02_plain), ⟨[(.tmp 30)]⟩, ⟨[t_api_Node]⟩⟩, none, false⟩,
      ⟨some 32, .unOp .not t_bool (.tmp 31), none, false⟩,
      ⟨some 33, .move (.tmp 32), none, false⟩,
      ⟨some 34, .move (.tmp 0), some (some 33, false), false⟩,
      ⟨some 35, .move (.tmp 3), some (some 33, false), false⟩,
      ⟨some 36, .call ⟨.value (.func f_louperef02_rising), ⟨[(.tmp 34), (.tmp 35)]⟩, ⟨[t_api_Val, t_int]⟩⟩, some (some 33, false), false⟩,
      ⟨some 37, .unOp .not t_bool (.tmp 36), some (some 33, false), false⟩,
      ⟨some 38, .pick (.tmp 33) (.const (.bool true)) (.tmp 37), none, false⟩])
     (.cond (.tmp 38)
      (.seq (.reg [⟨some 2, .assign (.const (.bool false)), none, false⟩])
      .ret)
      .skip)))
    (.reg [⟨some 25, .move (.tmp 3), none, false⟩,
     ⟨some 26, .binOp .add t_int (.tmp 25) (.const (.int .i64 1)) t_int, none, false⟩,
     ⟨some 3, .assign (.tmp 26), none, false⟩]))))))
  (.seq (.reg [⟨some 2, .assign (.const (.bool true)), none, false⟩])
  .ret))))
theorem k_louperef02_Right : FnOk Tryd.prog f_louperef02_Right 39 [.tmp 2] c_louperef02_Right := ⟨_, _, Tryd.func15, by kernel_rfl, rfl, Tryd.ntmps15, rfl, by kernel_rfl⟩

def c_val_Names : LC :=
  (.seq (.reg [⟨some 2, .assign (.const (.slice none 0 0)), none, false⟩])
  (.seq (.reg [⟨some 3, .alloc t_L_string, none, false⟩])
  (.seq (.seq (.reg [⟨some 5, .move (.tmp 0), none, false⟩,
   ⟨some 6, .indexAddr t_api_Val (.tmp 5) (.const (.int .i64 0)), none, false⟩,
   ⟨some 7, .fieldAddr t_api_Node (.tmp 6) 0, none, false⟩,
   ⟨some 8, .load t_int (.tmp 7), none, false⟩,
   ⟨some 9, .binOp .eql t_int (.tmp 8) (.const (.int .i64 6)) t_int, none, false⟩])
  (.cond (.tmp 9)
   (.seq (.reg [⟨some 10, .move (.tmp 0), none, false⟩,
    ⟨some 11, .call ⟨.value (.func f_val_each), ⟨[(.tmp 10)]⟩, ⟨[t_api_Val]⟩⟩, none, false⟩])
   (.block 0 (.rf (.tmp 11) [12, 13] none
     (.reg [⟨some 4, .assign (.tmp 12), none, false⟩])
     (.block 1 (.reg [⟨some 14, .load t_L_string (.tmp 3), none, false⟩,
       ⟨some 15, .move (.tmp 4), none, false⟩,
       ⟨some 16, .buildSlice t_L_string 1 ⟨[(0, (.tmp 15))]⟩, none, false⟩,
       ⟨some 17, .call ⟨.builtin .append, ⟨[(.tmp 14), (.tmp 16)]⟩, ⟨[t_L_string, t_L_string]⟩⟩, none, false⟩,
       ⟨none, .store t_L_string (.tmp 3) (.tmp 17), none, false⟩])))))
   .skip))
  (.seq (.reg [⟨some 18, .load t_L_string (.tmp 3), none, false⟩,
   ⟨some 2, .assign (.tmp 18), none, false⟩])
  .ret))))
theorem k_val_Names : FnOk Tryd.prog f_val_Names 19 [.tmp 2] c_val_Names := ⟨_, _, Tryd.func23, by kernel_rfl, rfl, Tryd.ntmps23, rfl, by kernel_rfl⟩

def c_val_Parts : LC :=
  (.seq (.reg [⟨some 2, .assign (.const (.slice none 0 0)), none, false⟩])
  (.seq (.reg [⟨some 3, .alloc t_L_api_Val, none, false⟩])
  (.seq (.seq (.reg [⟨some 6, .move (.tmp 0), none, false⟩,
   ⟨some 7, .call ⟨.value (.func f_val_each), ⟨[(.tmp 6)]⟩, ⟨[t_api_Val]⟩⟩, none, false⟩])
  (.block 0 (.rf (.tmp 7) [8, 9] none
    (.reg [⟨some 5, .assign (.tmp 9), none, false⟩])
    (.block 1 (.reg [⟨some 10, .load t_L_api_Val (.tmp 3), none, false⟩,
      ⟨some 11, .move (.tmp 5), none, false⟩,
      ⟨some 12, .buildSlice t_L_api_Val 1 ⟨[(0, (.tmp 11))]⟩, none, false⟩,
      ⟨some 13, .call ⟨.builtin .append, ⟨[(.tmp 10), (.tmp 12)]⟩, ⟨[t_L_api_Val, t_L_api_Val]⟩⟩, none, false⟩,
      ⟨none, .store t_L_api_Val (.tmp 3) (.tmp 13), none, false⟩])))))
  (.seq (.reg [⟨some 14, .load t_L_api_Val (.tmp 3), none, false⟩,
   ⟨some 2, .assign (.tmp 14), none, false⟩])
  .ret))))
theorem k_val_Parts : FnOk Tryd.prog f_val_Parts 15 [.tmp 2] c_val_Parts := ⟨_, _, Tryd.func14, by kernel_rfl, rfl, Tryd.ntmps14, rfl, by kernel_rfl⟩

def c_louperef02_Parts : LC :=
  (.seq (.reg [⟨some 2, .assign (.const (.slice none 0 0)), none, false⟩])
  (.seq (.reg [⟨some 7, .buildSlice t_L_api_Val 0 ⟨[]⟩, none, true⟩,
   ⟨some 3, .assign (.tmp 7), none, false⟩])
  (.seq (.reg [⟨some 4, .assign (.const (.int .i64 1)), none, false⟩])
  (.seq (.seq (.reg [⟨some 5, .assign (.const (.int .i64 0)), none, false⟩])
  (.block 0 (.loop [true, false, false, true, true, true, false, false, false, false, false, false, false, false, false, false, false, false, false, false, false, false, false, false, false, false, false, false] none
   (.seq (.seq (.reg [⟨some 8, .move (.tmp 5), none, false⟩,
     ⟨some 9, .move (.tmp 0), none, false⟩,
     ⟨some 10, .indexAddr t_api_Val (.tmp 9) (.const (.int .i64 0)), none, false⟩,
     ⟨some 11, .fieldAddr t_api_Node (.tmp 10) 1, none, false⟩,
     ⟨some 12, .load t_int (.tmp 11), none, false⟩,
     ⟨some 13, .binOp .lss t_int (.tmp 8) (.tmp 12) t_int, none, false⟩])
    (.cond (.tmp 13)
     .skip
     (.exit 0)))
    (.seq (.block 1 (.seq (.reg [⟨some 16, .move (.tmp 0), none, false⟩,
      ⟨some 17, .move (.tmp 4), none, false⟩,
      ⟨some 18, .call ⟨.value (.func f_louperef02_Next), ⟨[(.tmp 16), (.tmp 17)]⟩, ⟨[t_api_Val, t_int]⟩⟩, none, false⟩,
      ⟨some 6, .assign (.tmp 18), none, false⟩])
     (.seq (.reg [⟨some 19, .move (.tmp 3), none, false⟩,
      ⟨some 20, .move (.tmp 0), none, false⟩,
      ⟨some 21, .move (.tmp 4), none, false⟩,
      ⟨some 22, .move (.tmp 6), none, false⟩,
      ⟨some 23, .call ⟨.value (.func f_louperef02_own), ⟨[(.tmp 20), (.tmp 21), (.tmp 22)]⟩, ⟨[t_api_Val, t_int, t_int]⟩⟩, none, false⟩,
      ⟨some 24, .buildSlice t_L_api_Val 1 ⟨[(0, (.tmp 23))]⟩, none, false⟩,
      ⟨some 25, .call ⟨.builtin .append, ⟨[(.tmp 19), (.tmp 24)]⟩, ⟨[t_L_api_Val, t_L_api_Val]⟩⟩, none, false⟩,
      ⟨some 3, .assign (.tmp 25), none, false⟩])
     (.reg [⟨some 26, .move (.tmp 6), none, false⟩,
      ⟨some 4, .assign (.tmp 26), none, false⟩]))))
    (.reg [⟨some 14, .move (.tmp 5), none, false⟩,
     ⟨some 15, .binOp .add t_int (.tmp 14) (.const (.int .i64 1)) t_int, none, false⟩,
     ⟨some 5, .assign (.tmp 15), none, false⟩]))))))
  (.seq (.reg [⟨some 27, .move (.tmp 3), none, false⟩,
   ⟨some 2, .assign (.tmp 27), none, false⟩])
  .ret)))))
theorem k_louperef02_Parts : FnOk Tryd.prog f_louperef02_Parts 28 [.tmp 2] c_louperef02_Parts := ⟨_, _, Tryd.func21, by kernel_rfl, rfl, Tryd.ntmps21, rfl, by kernel_rfl⟩

def c_louperef02_Names : LC :=
  (.seq (.reg [⟨some 2, .assign (.const (.slice none 0 0)), none, false⟩])
  (.seq (.reg [⟨some 6, .buildSlice t_L_string 0 ⟨[]⟩, none, true⟩,
   ⟨some 3, .assign (.tmp 6), none, false⟩])
  (.seq (.reg [⟨some 4, .assign (.const (.int .i64 1)), none, false⟩])
  (.seq (.seq (.reg [⟨some 5, .assign (.const (.int .i64 0)), none, false⟩])
  (.block 0 (.loop [true, false, false, true, true, true, false, false, false, false, false, false, false, false, false, false, false, false, false, false, false, false, false, false, false, false, false, false, false, false, false, false, false, false] none
   (.seq (.seq (.reg [⟨some 7, .move (.tmp 5), none, false⟩,
     ⟨some 8, .move (.tmp 0), none, false⟩,
     ⟨some 9, .indexAddr t_api_Val (.tmp 8) (.const (.int .i64 0)), none, false⟩,
     ⟨some 10, .fieldAddr t_api_Node (.tmp 9) 1, none, false⟩,
     ⟨some 11, .load t_int (.tmp 10), none, false⟩,
     ⟨some 12, .binOp .lss t_int (.tmp 7) (.tmp 11) t_int, none, false⟩,
     ⟨some 13, .move (.tmp 12), none, false⟩,
     ⟨some 14, .move (.tmp 0), some (some 13, true), false⟩,
     ⟨some 15, .indexAddr t_api_Val (.tmp 14) (.const (.int .i64 0)), some (some 13, true), false⟩,
     ⟨some 16, .fieldAddr t_api_Node (.tmp 15) 0, some (some 13, true), false⟩,
     ⟨some 17, .load t_int (.tmp 16), some (some 13, true), false⟩,
     ⟨some 18, .binOp .eql t_int (.tmp 17) (.const (.int .i64 6)) t_int, some (some 13, true), false⟩,
     ⟨some 19, .pick (.tmp 13) (.tmp 18) (.const (.bool false)), none, false⟩])
    (.cond (.tmp 19)
     .skip
     (.exit 0)))
    (.seq (.block 1 (.seq (.reg [⟨some 22, .move (.tmp 3), none, false⟩,
      ⟨some 23, .move (.tmp 0), none, false⟩,
      ⟨some 24, .move (.tmp 4), none, false⟩,
      ⟨some 25, .indexAddr t_api_Val (.tmp 23) (.tmp 24), none, false⟩,
      ⟨some 26, .fieldAddr t_api_Node (.tmp 25) 2, none, false⟩,
      ⟨some 27, .load t_string (.tmp 26), none, false⟩,
      ⟨some 28, .buildSlice t_L_string 1 ⟨[(0, (.tmp 27))]⟩, none, false⟩,
      ⟨some 29, .call ⟨.builtin .append, ⟨[(.tmp 22), (.tmp 28)]⟩, ⟨[t_L_string, t_L_string]⟩⟩, none, false⟩,
      ⟨some 3, .assign (.tmp 29), none, false⟩])
     (.reg [⟨some 30, .move (.tmp 0), none, false⟩,
      ⟨some 31, .move (.tmp 4), none, false⟩,
      ⟨some 32, .call ⟨.value (.func f_louperef02_Next), ⟨[(.tmp 30), (.tmp 31)]⟩, ⟨[t_api_Val, t_int]⟩⟩, none, false⟩,
      ⟨some 4, .assign (.tmp 32), none, false⟩])))
    (.reg [⟨some 20, .move (.tmp 5), none, false⟩,
     ⟨some 21, .binOp .add t_int (.tmp 20) (.const (.int .i64 1)) t_int, none, false⟩,
     ⟨some 5, .assign (.tmp 21), none, false⟩]))))))
  (.seq (.reg [⟨some 33, .move (.tmp 3), none, false⟩,
   ⟨some 2, .assign (.tmp 33), none, false⟩])
  .ret)))))
theorem k_louperef02_Names : FnOk Tryd.prog f_louperef02_Names 34 [.tmp 2] c_louperef02_Names := ⟨_, _, Tryd.func24, by kernel_rfl, rfl, Tryd.ntmps24, rfl, by kernel_rfl⟩

def c_louperef02_Rune : LC :=
  (.seq (.reg [⟨some 4, .assign (.const (.int .i64 0)), none, false⟩])
  (.seq (.reg [⟨some 6, .move (.tmp 0), none, false⟩,
   ⟨some 7, .move (.tmp 1), none, false⟩,
   ⟨some 8, .index t_string (.tmp 6) (.tmp 7), none, false⟩,
   ⟨some 5, .assign (.tmp 8), none, false⟩])
  (.seq (.block 0 (.seq (.reg [⟨some 10, .move (.tmp 5), none, false⟩,
    ⟨some 11, .binOp .lss t_uint8 (.tmp 10) (.const (.int .u8 128)) t_uint8, none, false⟩,
    ⟨some 9, .assign (.tmp 11), none, false⟩])
   (.cond (.tmp 9)
    (.seq (.reg [⟨some 4, .assign (.const (.int .i64 1)), none, false⟩])
    .ret)
    (.seq (.reg [⟨some 13, .move (.tmp 5), none, false⟩,
     ⟨some 14, .binOp .geq t_uint8 (.tmp 13) (.const (.int .u8 194)) t_uint8, none, false⟩,
     ⟨some 15, .move (.tmp 14), none, false⟩,
     ⟨some 16, .move (.tmp 5), some (some 15, true), false⟩,
     ⟨some 17, .binOp .lss t_uint8 (.tmp 16) (.const (.int .u8 224)) t_uint8, some (some 15, true), false⟩,
     ⟨some 18, .pick (.tmp 15) (.tmp 17) (.const (.bool false)), none, false⟩,
     ⟨some 19, .move (.tmp 18), none, false⟩,
     ⟨some 20, .move (.tmp 0), some (some 19, true), false⟩,
     ⟨some 21, .move (.tmp 1), some (some 19, true), false⟩,
     ⟨some 22, .binOp .add t_int (.tmp 21) (.const (.int .i64 1)) t_int, some (some 19, true), false⟩,
     ⟨some 23, .call ⟨.value (.func f_louperef02_cont), ⟨[(.tmp 20), (.tmp 22)]⟩, ⟨[t_string, t_int]⟩⟩, some (some 19, true), false⟩,
     ⟨some 24, .pick (.tmp 19) (.tmp 23) (.const (.bool false)), none, false⟩,
     ⟨some 12, .assign (.tmp 24), none, false⟩])
    (.cond (.tmp 12)
     (.seq (.reg [⟨some 4, .assign (.const (.int .i64 2)), none, false⟩])
     .ret)
     (.seq (.reg [⟨some 26, .move (.tmp 5), none, false⟩,
      ⟨some 27, .binOp .geq t_uint8 (.tmp 26) (.const (.int .u8 224)) t_uint8, none, false⟩,
      ⟨some 28, .move (.tmp 27), none, false⟩,
      ⟨some 29, .move (.tmp 5), some (some 28, true), false⟩,
      ⟨some 30, .binOp .lss t_uint8 (.tmp 29) (.const (.int .u8 240)) t_uint8, some (some 28, true), false⟩,
      ⟨some 31, .pick (.tmp 28) (.tmp 30) (.const (.bool false)), none, false⟩,
      ⟨some 32, .move (.tmp 31), none, false⟩,
      ⟨some 33, .move (.tmp 0), some (some 32, true), false⟩,
      ⟨some 34, .move (.tmp 1), some (some 32, true), false⟩,
      ⟨some 35, .binOp .add t_int (.tmp 34) (.const (.int .i64 1)) t_int, some (some 32, true), false⟩,
      ⟨some 36, .call ⟨.value (.func f_louperef02_cont), ⟨[(.tmp 33), (.tmp 35)]⟩, ⟨[t_string, t_int]⟩⟩, some (some 32, true), false⟩,
      ⟨some 37, .pick (.tmp 32) (.tmp 36) (.const (.bool false)), none, false⟩,
      ⟨some 38, .move (.tmp 37), none, false⟩,
      ⟨some 39, .move (.tmp 0), some (some 38, true), false⟩,
      ⟨some 40, .move (.tmp 1), some (some 38, true), false⟩,
      ⟨some 41, .binOp .add t_int (.tmp 40) (.const (.int .i64 2)) t_int, some (some 38, true), false⟩,
      ⟨some 42, .call ⟨.value (.func f_louperef02_cont), ⟨[(.tmp 39), (.tmp 41)]⟩, ⟨[t_string, t_int]⟩⟩, some (some 38, true), false⟩,
      ⟨some 43, .pick (.tmp 38) (.tmp 42) (.const (.bool false)), none, false⟩,
      ⟨some 25, .assign (.tmp 43), none, false⟩])
     (.cond (.tmp 25)
      (.seq (.seq (.reg [⟨some 44, .move (.tmp 5), none, false⟩,
       ⟨some 45, .binOp .eql t_uint8 (.tmp 44) (.const (.int .u8 224)) t_uint8, none, false⟩,
       ⟨some 46, .move (.tmp 45), none, false⟩,
       ⟨some 47, .move (.tmp 0), some (some 46, true), false⟩,
       ⟨some 48, .move (.tmp 1), some (some 46, true), false⟩,
       ⟨some 49, .binOp .add t_int (.tmp 48) (.const (.int .i64 1)) t_int, some (some 46, true), false⟩,
       ⟨some 50, .index t_string (.tmp 47) (.tmp 49), some (some 46, true), false⟩,
       ⟨some 51, .binOp .lss t_uint8 (.tmp 50) (.const (.int .u8 160)) t_uint8, some (some 46, true), false⟩,
       ⟨some 52, .pick (.tmp 46) (.tmp 51) (.const (.bool false)), none, false⟩,
       ⟨some 53, .move (.tmp 52), none, false⟩,
       ⟨some 54, .move (.tmp 5), some (some 53, false), false⟩,
       ⟨some 55, .binOp .eql t_uint8 (.tmp 54) (.const (.int .u8 237)) t_uint8, some (some 53, false), false⟩,
       ⟨some 56, .move (.tmp 55), some (some 53, false), false⟩,
       ⟨some 57, .move (.tmp 0), some (some 56, true), false⟩,
       ⟨some 58, .move (.tmp 1), some (some 56, true), false⟩,
       ⟨some 59, .binOp .add t_int (.tmp 58) (.const (.int .i64 1)) t_int, some (some 56, true), false⟩,
       ⟨some 60, .index t_string (.tmp 57) (.tmp 59), some (some 56, true), false⟩,
       ⟨some 61, .binOp .geq t_uint8 (.tmp 60) (.const (.int .u8 160)) t_uint8, some (some 56, true), false⟩,
       ⟨some 62, .pick (.tmp 56) (.tmp 61) (.const (.bool false)), some (some 53, false), false⟩,
       ⟨some 63, .pick (.tmp 53) (.const (.bool true)) (.tmp 62), none, false⟩])
      (.cond (.tmp 63)
       (.seq (.reg [⟨some 4, .assign (.const (.int .i64 0)), none, false⟩])
       .ret)
       .skip))
      (.seq (.reg [⟨some 4, .assign (.const (.int .i64 3)), none, false⟩])
      .ret))
      (.seq (.reg [⟨some 65, .move (.tmp 5), none, false⟩,
       ⟨some 66, .binOp .geq t_uint8 (.tmp 65) (.const (.int .u8 240)) t_uint8, none, false⟩,
       ⟨some 67, .move (.tmp 66), none, false⟩,
       ⟨some 68, .move (.tmp 5), some (some 67, true), false⟩,
       ⟨some 69, .binOp .lss t_uint8 (.tmp 68) (.const (.int .u8 245)) t_uint8, some (some 67, true), false⟩,
       ⟨some 70, .pick (.tmp 67) (.tmp 69) (.const (.bool false)), none, false⟩,
       ⟨some 71, .move (.tmp 70), none, false⟩,
       ⟨some 72, .move (.tmp 0), some (some 71, true), false⟩,
       ⟨some 73, .move (.tmp 1), some (some 71, true), false⟩,
       ⟨some 74, .binOp .add t_int (.tmp 73) (.const (.int .i64 1)) t_int, some (some 71, true), false⟩,
       ⟨some 75, .call ⟨.value (.func f_louperef02_cont), ⟨[(.tmp 72), (.tmp 74)]⟩, ⟨[t_string, t_int]⟩⟩, some (some 71, true), false⟩,
       ⟨some 76, .pick (.tmp 71) (.tmp 75) (.const (.bool false)), none, false⟩,
       ⟨some 77, .move (.tmp 76), none, false⟩,
       ⟨some 78, .move (.tmp 0), some (some 77, true), false⟩,
       ⟨some 79, .move (.tmp 1), some (some 77, true), false⟩,
       ⟨some 80, .binOp .add t_int (.tmp 79) (.const (.int .i64 2)) t_int, some (some 77, true), false⟩,
       ⟨some 81, .call ⟨.value (.func f_louperef02_cont), ⟨[(.tmp 78), (.tmp 80)]⟩, ⟨[t_string, t_int]⟩⟩, some (some 77, true), false⟩,
       ⟨some 82, .pick (.tmp 77) (.tmp 81) (.const (.bool false)), none, false⟩,
       ⟨some 83, .move (.tmp 82), none, false⟩,
       ⟨some 84, .move (.tmp 0), some (some 83, true), false⟩,
       ⟨some 85, .move (.tmp 1), some (some 83, true), false⟩,
       ⟨some 86, .binOp .add t_int (.tmp 85) (.const (.int .i64 3)) t_int, some (some 83, true), false⟩,
       ⟨some 87, .call ⟨.value (.func f_louperef02_cont), ⟨[(.tmp 84), (.tmp 86)]⟩, ⟨[t_string, t_int]⟩⟩, some (some 83, true), false⟩,
       ⟨some 88, .pick (.tmp 83) (.tmp 87) (.const (.bool false)), none, false⟩,
       ⟨some 64, .assign (.tmp 88), none, false⟩])
      (.cond (.tmp 64)
       (.seq (.seq (.reg [⟨some 89, .move (.tmp 5), none, false⟩,
        ⟨some 90, .binOp .eql t_uint8 (.tmp 89) (.const (.int .u8 240)) t_uint8, none, false⟩,
        ⟨some 91, .move (.tmp 90), none, false⟩,
        ⟨some 92, .move (.tmp 0), some (some 91, true), false⟩,
        ⟨some 93, .move (.tmp 1), some (some 91, true), false⟩,
        ⟨some 94, .binOp .add t_int (.tmp 93) (.const (.int .i64 1)) t_int, some (some 91, true), false⟩,
        ⟨some 95, .index t_string (.tmp 92) (.tmp 94), some (some 91, true), false⟩,
        ⟨some 96, .binOp .lss t_uint8 (.tmp 95) (.const (.int .u8 144)) t_uint8, some (some 91, true), false⟩,
        ⟨some 97, .pick (.tmp 91) (.tmp 96) (.const (.bool false)), none, false⟩,
        ⟨some 98, .move (.tmp 97), none, false⟩,
        ⟨some 99, .move (.tmp 5), some (some 98, false), false⟩,
        ⟨some 100, .binOp .eql t_uint8 (.tmp 99) (.const (.int .u8 244)) t_uint8, some (some 98, false), false⟩,
        ⟨some 101, .move (.tmp 100), some (some 98, false), false⟩,
        ⟨some 102, .move (.tmp 0), some (some 101, true), false⟩,
        ⟨some 103, .move (.tmp 1), some (some 101, true), false⟩,
        ⟨some 104, .binOp .add t_int (.tmp 103) (.const (.int .i64 1)) t_int, some (some 101, true), false⟩,
        ⟨some 105, .index t_string (.tmp 102) (.tmp 104), some (some 101, true), false⟩,
        ⟨some 106, .binOp .geq t_uint8 (.tmp 105) (.const (.int .u8 144)) t_uint8, some (some 101, true), false⟩,
        ⟨some 107, .pick (.tmp 101) (.tmp 106) (.const (.bool false)), some (some 98, false), false⟩,
        ⟨some 108, .pick (.tmp 98) (.const (.bool true)) (.tmp 107), none, false⟩])
       (.cond (.tmp 108)
        (.seq (.reg [⟨some 4, .assign (.const (.int .i64 0)), none, false⟩])
        .ret)
        .skip))
       (.seq (.reg [⟨some 4, .assign (.const (.int .i64 4)), none, false⟩])
       .ret))
       .skip)))))))))
  (.seq (.reg [⟨some 4, .assign (.const (.int .i64 0)), none, false⟩])
  .ret))))
theorem k_louperef02_Rune : FnOk Tryd.prog f_louperef02_Rune 109 [.tmp 4] c_louperef02_Rune := ⟨_, _, Tryd.func47, by kernel_rfl, rfl, Tryd.ntmps47, rfl, by kernel_rfl⟩

def c_louperef02_Next : LC :=
  (.seq (.reg [⟨some 4, .assign (.const (.int .i64 0)), none, false⟩])
  (.seq (.reg [⟨some 5, .assign (.const (.int .i64 1)), none, false⟩])
  (.seq (.block 0 (.loop [true, true, false, false, false, true, false, false, false, false, false, false, false, false, false, false, false, false, false, false, false, false, false, false, false, false, false, false, false, false, false, false, false, false, false, false, false, false, false, false, false] none
   (.seq (.seq (.reg [⟨some 6, .move (.tmp 5), none, false⟩,
     ⟨some 7, .binOp .gtr t_int (.tmp 6) (.const (.int .i64 0)) t_int, none, false⟩])
    (.cond (.tmp 7)
     .skip
     (.exit 0)))
    (.block 1 (.seq (.seq (.reg [⟨some 8, .move (.tmp 1), none, false⟩,
      ⟨some 9, .move (.tmp 0), none, false⟩,
      ⟨some 10, .call ⟨.builtin .len, ⟨[(.tmp 9)]⟩, ⟨[t_api_Val]⟩⟩, none, false⟩,
      ⟨some 11, .binOp .geq t_int (.tmp 8) (.tmp 10) t_int, none, false⟩,
      ⟨some 12, .move (.tmp 11), none, false⟩,
      ⟨some 13, .move (.tmp 0), some (some 12, false), false⟩,
      ⟨some 14, .move (.tmp 1), some (some 12, false), false⟩,
      ⟨some 15, .indexAddr t_api_Val (.tmp 13) (.tmp 14), some (some 12, false), false⟩,
      ⟨some 16, .fieldAddr t_api_Node (.tmp 15) 1, some (some 12, false), false⟩,
      ⟨some 17, .load t_int (.tmp 16), some (some 12, false), false⟩,
      ⟨some 18, .binOp .lss t_int (.tmp 17) (.const (.int .i64 0)) t_int, some (some 12, false), false⟩,
      ⟨some 19, .pick (.tmp 12) (.const (.bool true)) (.tmp 18), none, false⟩,
      ⟨some 20, .move (.tmp 19), none, false⟩,
      ⟨some 21, .move (.tmp 0), some (some 20, false), false⟩,
      ⟨some 22, .move (.tmp 1), some (some 20, false), false⟩,
      ⟨some 23, .indexAddr t_api_Val (.tmp 21) (.tmp 22), some (some 20, false), false⟩,
      ⟨some 24, .fieldAddr t_api_Node (.tmp 23) 1, some (some 20, false), false⟩,
      ⟨some 25, .load t_int (.tmp 24), some (some 20, false), false⟩,
      ⟨some 26, .move (.tmp 0), some (some 20, false), false⟩,
      ⟨some 27, .call ⟨.builtin .len, ⟨[(.tmp 26)]⟩, ⟨[t_api_Val]⟩⟩, some (some 20, false), false⟩,
      ⟨some 28, .binOp .gtr t_int (.tmp 25) (.tmp 27) t_int, some (some 20, false), false⟩,
      ⟨some 29, .pick (.tmp 20) (.const (.bool true)) (.tmp 28), none, false⟩])
     (.cond (.tmp 29)
      (.seq (.reg [⟨some 4, .assign (.const (.int .i64 (-1))), none, false⟩])
      .ret)
      .skip))
     (.seq (.reg [⟨some 30, .move (.tmp 5), none, false⟩,
      ⟨some 31, .binOp .sub t_int (.tmp 30) (.const (.int .i64 1)) t_int, none, false⟩,
      ⟨some 32, .move (.tmp 0), none, false⟩,
      ⟨some 33, .move (.tmp 1), none, false⟩,
      ⟨some 34, .indexAddr t_api_Val (.tmp 32) (.tmp 33), none, false⟩,
      ⟨some 35, .fieldAddr t_api_Node (.tmp 34) 1, none, false⟩,
      ⟨some 36, .load t_int (.tmp 35), none, false⟩,
      ⟨some 37, .binOp .add t_int (.tmp 31) (.tmp 36) t_int, none, false⟩,
      ⟨some 5, .assign (.tmp 37), none, false⟩])
     (.reg [⟨some 38, .move (.tmp 1), none, false⟩,
      ⟨some 39, .binOp .add t_int (.tmp 38) (.const (.int .i64 1)) t_int, none, false⟩,
      ⟨some 1, .assign (.tmp 39), none, false⟩])))))))
  (.seq (.reg [⟨some 40, .move (.tmp 1), none, false⟩,
   ⟨some 4, .assign (.tmp 40), none, false⟩])
  .ret))))
theorem k_louperef02_Next : FnOk Tryd.prog f_louperef02_Next 41 [.tmp 4] c_louperef02_Next := ⟨_, _, Tryd.func35, by kernel_rfl, rfl, Tryd.ntmps35, rfl, by kernel_rfl⟩

def c_louperef02_plain : LC :=
  (.seq (.reg [⟨some 1, .box t_api_Node (.tmp 0), none, false⟩,
   ⟨some 2, .assign (.const (.bool false)), none, false⟩])
  (.seq (.reg [⟨some 3, .fieldAddr t_api_Node (.tmp 1) 2, none, false⟩,
   ⟨none, .store t_string (.tmp 3) (.const (.string ⟨⟨[]⟩⟩)), none, false⟩])
  (.seq (.seq (.reg [⟨some 4, .fieldAddr t_api_Node (.tmp 1) 0, none, false⟩,
   ⟨some 5, .load t_int (.tmp 4), none, false⟩])
  (.block 0 (.seq (.seq (.reg [⟨some 7, .binOp .eql t_int (.tmp 5) (.const (.int .i64 0)) t_int, none, false⟩,
    ⟨some 6, .assign (.tmp 7), none, false⟩])
   (.cond (.tmp 6)
    .skip
    (.seq (.reg [⟨some 8, .binOp .eql t_int (.tmp 5) (.const (.int .i64 1)) t_int, none, false⟩,
     ⟨some 6, .assign (.tmp 8), none, false⟩])
    (.cond (.tmp 6)
     .skip
     (.reg [⟨some 9, .binOp .eql t_int (.tmp 5) (.const (.int .i64 2)) t_int, none, false⟩,
      ⟨some 6, .assign (.tmp 9), none, false⟩])))))
   (.cond (.tmp 6)
    (.seq (.reg [⟨some 10, .load t_api_Node (.tmp 1), none, false⟩,
     ⟨some 11, .fieldAddr t_api_Node (.tmp 1) 0, none, false⟩,
     ⟨some 12, .load t_int (.tmp 11), none, false⟩,
     ⟨some 13, .build t_api_Node ⟨[(0, (.tmp 12))]⟩, none, false⟩,
     ⟨some 14, .binOp .eql t_api_Node (.tmp 10) (.tmp 13) t_api_Node, none, false⟩,
     ⟨some 2, .assign (.tmp 14), none, false⟩])
    .ret)
    (.seq (.reg [⟨some 16, .binOp .eql t_int (.tmp 5) (.const (.int .i64 3)) t_int, none, false⟩,
     ⟨some 15, .assign (.tmp 16), none, false⟩])
    (.cond (.tmp 15)
     (.seq (.reg [⟨some 17, .load t_api_Node (.tmp 1), none, false⟩,
      ⟨some 18, .call ⟨.value (.func f_louperef01_Right), ⟨[(.tmp 17)]⟩, ⟨[t_api_Node]⟩⟩, none, false⟩,
      ⟨some 2, .assign (.tmp 18), none, false⟩])
     .ret)
     (.seq (.reg [⟨some 20, .binOp .eql t_int (.tmp 5) (.const (.int .i64 4)) t_int, none, false⟩,
      ⟨some 19, .assign (.tmp 20), none, false⟩])
     (.cond (.tmp 19)
      (.seq (.reg [⟨some 21, .fieldAddr t_api_Node (.tmp 1) 3, none, false⟩,
       ⟨some 22, .load t_string (.tmp 21), none, false⟩,
       ⟨some 23, .call ⟨.value (.func f_louperef02_Utf), ⟨[(.tmp 22)]⟩, ⟨[t_string]⟩⟩, none, false⟩,
       ⟨some 24, .move (.tmp 23), none, false⟩,
       ⟨some 25, .load t_api_Node (.tmp 1), some (some 24, true), false⟩,
       ⟨some 26, .fieldAddr t_api_Node (.tmp 1) 0, some (some 24, true), false⟩,
       ⟨some 27, .load t_int (.tmp 26), some (some 24, true), false⟩,
       ⟨some 28, .fieldAddr t_api_Node (.tmp 1) 3, some (some 24, true), false⟩,
       ⟨some 29, .load t_string (.tmp 28), some (some 24, true), false⟩,
       ⟨some 30, .build t_api_Node ⟨[(0, (.tmp 27)), (3, (.tmp 29))]⟩, some (some 24, true), false⟩,
       ⟨some 31, .binOp .eql t_api_Node (.tmp 25) (.tmp 30) t_api_Node, some (some 24, true), false⟩,
       ⟨some 32, .pick (.tmp 24) (.tmp 31) (.const (.bool false)), none, false⟩,
       ⟨some 2, .assign (.tmp 32), none, false⟩])
      .ret)
      (.seq (.seq (.reg [⟨some 34, .binOp .eql t_int (.tmp 5) (.const (.int .i64 5)) t_int, none, false⟩,
       ⟨some 33, .assign (.tmp 34), none, false⟩])
      (.cond (.tmp 33)
       .skip
       (.reg [⟨some 35, .binOp .eql t_int (.tmp 5) (.const (.int .i64 6)) t_int, none, false⟩,
        ⟨some 33, .assign (.tmp 35), none, false⟩])))
      (.cond (.tmp 33)
       (.seq (.reg [⟨some 36, .fieldAddr t_api_Node (.tmp 1) 1, none, false⟩,
        ⟨some 37, .load t_int (.tmp 36), none, false⟩,
        ⟨some 38, .binOp .geq t_int (.tmp 37) (.const (.int .i64 0)) t_int, none, false⟩,
        ⟨some 39, .move (.tmp 38), none, false⟩,
        ⟨some 40, .load t_api_Node (.tmp 1), some (some 39, true), false⟩,
        ⟨some 41, .fieldAddr t_api_Node (.tmp 1) 0, some (some 39, true), false⟩,
        ⟨some 42, .load t_int (.tmp 41), some (some 39, true), false⟩,
        ⟨some 43, .fieldAddr t_api_Node (.tmp 1) 1, some (some 39, true), false⟩,
        ⟨some 44, .load t_int (.tmp 43), some (some 39, true), false⟩,
        ⟨some 45, .build t_api_Node ⟨[(0, (.tmp 42)), (1, (.tmp 44))]⟩, some (some 39, true), false⟩,
        ⟨some 46, .binOp .eql t_api_Node (.tmp 40) (.tmp 45) t_api_Node, some (some 39, true), false⟩,
        ⟨some 47, .pick (.tmp 39) (.tmp 46) (.const (.bool false)), none, false⟩,
        ⟨some 2, .assign (.tmp 47), none, false⟩])
       .ret)
       .skip))))))))))
  (.seq (.reg [⟨some 2, .assign (.const (.bool false)), none, false⟩])
  .ret))))
theorem k_louperef02_plain : FnOk Tryd.prog f_louperef02_plain 48 [.tmp 2] c_louperef02_plain := ⟨_, _, Tryd.func36, by kernel_rfl, rfl, Tryd.ntmps36, rfl, by kernel_rfl⟩

def c_louperef02_rising : LC :=
  (.seq (.reg [⟨some 4, .assign (.const (.bool false)), none, false⟩])
  (.seq (.reg [⟨some 8, .move (.tmp 1), none, false⟩,
   ⟨some 9, .binOp .add t_int (.tmp 8) (.const (.int .i64 1)) t_int, none, false⟩,
   ⟨some 5, .assign (.tmp 9), none, false⟩])
  (.seq (.seq (.reg [⟨some 6, .assign (.const (.int .i64 0)), none, false⟩])
  (.block 0 (.loop [true, true, false, false, false, true, true, false, false, false, false, false, false, false, false, false, false, false, false, false, false, false, false, false, false, false, false, false, false, false, false, false, false, false, false, false, false, false, false, false, false, false, false, false, false, false, false, false, false, false, false, false, false, false, false, false, false, false, false, false, false, false, false, false, false, false, false, false, false, false, false, false, false, false, false] none
   (.seq (.seq (.reg [⟨some 10, .move (.tmp 6), none, false⟩,
     ⟨some 11, .move (.tmp 0), none, false⟩,
     ⟨some 12, .move (.tmp 1), none, false⟩,
     ⟨some 13, .indexAddr t_api_Val (.tmp 11) (.tmp 12), none, false⟩,
     ⟨some 14, .fieldAddr t_api_Node (.tmp 13) 1, none, false⟩,
     ⟨some 15, .load t_int (.tmp 14), none, false⟩,
     ⟨some 16, .binOp .lss t_int (.tmp 10) (.tmp 15) t_int, none, false⟩])
    (.cond (.tmp 16)
     .skip
     (.exit 0)))
    (.seq (.block 1 (.seq (.seq (.reg [⟨some 19, .move (.tmp 0), none, false⟩,
      ⟨some 20, .move (.tmp 1), none, false⟩,
      ⟨some 21, .indexAddr t_api_Val (.tmp 19) (.tmp 20), none, false⟩,
      ⟨some 22, .fieldAddr t_api_Node (.tmp 21) 0, none, false⟩,
      ⟨some 23, .load t_int (.tmp 22), none, false⟩,
      ⟨some 24, .binOp .eql t_int (.tmp 23) (.const (.int .i64 5)) t_int, none, false⟩,
      ⟨some 25, .move (.tmp 24), none, false⟩,
      ⟨some 26, .move (.tmp 0), some (some 25, true), false⟩,
      ⟨some 27, .move (.tmp 5), some (some 25, true), false⟩,
      ⟨some 28, .indexAddr t_api_Val (.tmp 26) (.tmp 27), some (some 25, true), false⟩,
      ⟨some 29, .fieldAddr t_api_Node (.tmp 28) 2, some (some 25, true), false⟩,
      ⟨some 30, .load t_string (.tmp 29), some (some 25, true), false⟩,
      ⟨some 31, .binOp .neq t_string (.tmp 30) (.const (.string ⟨⟨[]⟩⟩)) t_string, some (some 25, true), false⟩,
      ⟨some 32, .pick (.tmp 25) (.tmp 31) (.const (.bool false)), none, false⟩,
      ⟨some 33, .move (.tmp 32), none, false⟩,
      ⟨some 34, .move (.tmp 0), some (some 33, false), false⟩,
      ⟨some 35, .move (.tmp 5), some (some 33, false), false⟩,
      ⟨some 36, .indexAddr t_api_Val (.tmp 34) (.tmp 35), some (some 33, false), false⟩,
      ⟨some 37, .fieldAddr t_api_Node (.tmp 36) 2, some (some 33, false), false⟩,
      ⟨some 38, .load t_string (.tmp 37), some (some 33, false), false⟩,
      ⟨some 39, .call ⟨.value (.func f_louperef02_Utf), ⟨[(.tmp 38)]⟩, ⟨[t_string]⟩⟩, some (some 33, false), false⟩,
      ⟨some 40, .unOp .not t_bool (.tmp 39), some (some 33, false), false⟩,
      ⟨some 41, .pick (.tmp 33) (.const (.bool true)) (.tmp 40), none, false⟩])
     (.cond (.tmp 41)
      (.seq (.reg [⟨some 4, .assign (.const (.bool false)), none, false⟩])
      .ret)
      .skip))
     (.seq (.reg [⟨some 42, .move (.tmp 0), none, false⟩,
      ⟨some 43, .move (.tmp 5), none, false⟩,
      ⟨some 44, .call ⟨.value (.func f_louperef02_Next), ⟨[(.tmp 42), (.tmp 43)]⟩, ⟨[t_api_Val, t_int]⟩⟩, none, false⟩,
      ⟨some 7, .assign (.tmp 44), none, false⟩])
     (.seq (.seq (.draw [⟨some 45, .move (.tmp 0), none, false⟩,
      ⟨some 46, .move (.tmp 1), none, false⟩,
      ⟨some 47, .indexAddr t_api_Val (.tmp 45) (.tmp 46), none, false⟩,
      ⟨some 48, .fieldAddr t_api_Node (.tmp 47) 0, none, false⟩,
      ⟨some 49, .load t_int (.tmp 48), none, false⟩,
      ⟨some 50, .binOp .eql t_int (.tmp 49) (.const (.int .i64 6)) t_int, none, false⟩,
      ⟨some 51, .move (.tmp 50), none, false⟩,
      ⟨some 52, .move (.tmp 6), some (some 51, true), false⟩,
      ⟨some 53, .binOp .add t_int (.tmp 52) (.const (.int .i64 1)) t_int, some (some 51, true), false⟩,
      ⟨some 54, .move (.tmp 0), some (some 51, true), false⟩,
      ⟨some 55, .move (.tmp 1), some (some 51, true), false⟩,
      ⟨some 56, .indexAddr t_api_Val (.tmp 54) (.tmp 55), some (some 51, true), false⟩,
      ⟨some 57, .fieldAddr t_api_Node (.tmp 56) 1, some (some 51, true), false⟩,
      ⟨some 58, .load t_int (.tmp 57), some (some 51, true), false⟩,
      ⟨some 59, .binOp .lss t_int (.tmp 53) (.tmp 58) t_int, some (some 51, true), false⟩,
      ⟨some 60, .pick (.tmp 51) (.tmp 59) (.const (.bool false)), none, false⟩,
      ⟨some 61, .move (.tmp 60), none, false⟩,
      ⟨some 62, .move (.tmp 0), some (some 61, true), false⟩,
      ⟨some 63, .move (.tmp 5), some (some 61, true), false⟩,
      ⟨some 64, .indexAddr t_api_Val (.tmp 62) (.tmp 63), some (some 61, true), false⟩,
      ⟨some 65, .fieldAddr t_api_Node (.tmp 64) 2, some (some 61, true), false⟩,
      ⟨some 66, .load t_string (.tmp 65), some (some 61, true), false⟩,
      ⟨some 67, .move (.tmp 0), some (some 61, true), false⟩,
      ⟨some 68, .move (.tmp 7), some (some 61, true), false⟩,
      ⟨some 69, .indexAddr t_api_Val (.tmp 67) (.tmp 68), some (some 61, true), false⟩,
      ⟨some 70, .fieldAddr t_api_Node (.tmp 69) 2, some (some 61, true), false⟩,
      ⟨some 71, .load t_string (.tmp 70), some (some 61, true), false⟩,
      ⟨some 72, .binOp .geq t_string (.tmp 66) (.tmp 71) t_string, some (some 61, true), false⟩,
      ⟨some 73, .pick (.tmp 61) (.tmp 72) (.const (.bool false)), none, false⟩]
     [0, 1, 0, 0, 0, 0, 0, 0, 0, 384, 896, 384, 384, 384, 0, 0, 0, 0, 131072, 0, 0, 0, 4063232, 8257536, 4063232, 4063232, 4063232, 0, 0])
     (.cond (.tmp 73)
      (.seq (.reg [⟨some 4, .assign (.const (.bool false)), none, false⟩])
      .ret)
      .skip))
     (.reg [⟨some 74, .move (.tmp 7), none, false⟩,
      ⟨some 5, .assign (.tmp 74), none, false⟩])))))
    (.reg [⟨some 17, .move (.tmp 6), none, false⟩,
     ⟨some 18, .binOp .add t_int (.tmp 17) (.const (.int .i64 1)) t_int, none, false⟩,
     ⟨some 6, .assign (.tmp 18), none, false⟩]))))))
  (.seq (.reg [⟨some 4, .assign (.const (.bool true)), none, false⟩])
  .ret))))
theorem k_louperef02_rising : FnOk Tryd.prog f_louperef02_rising 75 [.tmp 4] c_louperef02_rising := ⟨_, _, Tryd.func37, by kernel_rfl, rfl, Tryd.ntmps37, rfl, by kernel_rfl⟩

def c_cmp_isNaN_string_ : LC :=
  (.seq (.reg [⟨some 2, .assign (.const (.bool false)), none, false⟩])
  (.seq (.reg [⟨some 3, .move (.tmp 0), none, false⟩,
   ⟨some 4, .move (.tmp 0), none, false⟩,
   ⟨some 5, .binOp .neq t_string (.tmp 3) (.tmp 4) t_string, none, false⟩,
   ⟨some 2, .assign (.tmp 5), none, false⟩])
  .ret))
theorem k_cmp_isNaN_string_ : FnOk Tryd.prog f_cmp_isNaN_string_ 6 [.tmp 2] c_cmp_isNaN_string_ := ⟨_, _, Tryd.func88, by kernel_rfl, rfl, Tryd.ntmps88, rfl, by kernel_rfl⟩

def c_val_each : LC :=
  (.seq (.reg [⟨some 1, .box t_api_Val (.tmp 0), none, false⟩,
   ⟨some 2, .assign (.const (.nilFunc)), none, false⟩])
  (.seq (.reg [⟨some 3, .makeFunc (.func f_val_each_1) ⟨[]⟩ ⟨[(.tmp 1)]⟩, none, false⟩,
   ⟨some 2, .assign (.tmp 3), none, false⟩])
  .ret))
theorem k_val_each : FnOk Tryd.prog f_val_each 4 [.tmp 2] c_val_each := ⟨_, _, Tryd.func34, by kernel_rfl, rfl, Tryd.ntmps34, rfl, by kernel_rfl⟩

def c_louperef02_own : LC :=
  (.seq (.reg [⟨some 6, .assign (.const (.slice none 0 0)), none, false⟩])
  (.seq (.reg [⟨some 9, .buildSlice t_api_Val 0 ⟨[]⟩, none, true⟩,
   ⟨some 10, .move (.tmp 0), none, false⟩,
   ⟨some 11, .move (.tmp 1), none, false⟩,
   ⟨some 12, .move (.tmp 2), none, false⟩,
   ⟨some 13, .slice t_api_Val (.tmp 10) (some (.tmp 11)) (some (.tmp 12)) none, none, false⟩,
   ⟨some 14, .call ⟨.builtin .append, ⟨[(.tmp 9), (.tmp 13)]⟩, ⟨[t_api_Val, t_api_Val]⟩⟩, none, false⟩,
   ⟨some 7, .assign (.tmp 14), none, false⟩])
  (.seq (.reg [⟨some 15, .move (.tmp 7), none, false⟩,
   ⟨some 16, .indexAddr t_api_Val (.tmp 15) (.const (.int .i64 0)), none, false⟩,
   ⟨some 17, .load t_api_Node (.tmp 16), none, false⟩,
   ⟨some 8, .alloc t_api_Node, none, false⟩,
   ⟨none, .store t_api_Node (.tmp 8) (.tmp 17), none, false⟩])
  (.seq (.reg [⟨some 18, .fieldAddr t_api_Node (.tmp 8) 2, none, false⟩,
   ⟨none, .store t_string (.tmp 18) (.const (.string ⟨⟨[]⟩⟩)), none, false⟩])
  (.seq (.reg [⟨some 19, .move (.tmp 7), none, false⟩,
   ⟨some 20, .load t_api_Node (.tmp 8), none, false⟩,
   ⟨some 21, .indexAddr t_api_Val (.tmp 19) (.const (.int .i64 0)), none, false⟩,
   ⟨none, .store t_api_Node (.tmp 21) (.tmp 20), none, false⟩])
  (.seq (.reg [⟨some 22, .move (.tmp 7), none, false⟩,
   ⟨some 6, .assign (.tmp 22), none, false⟩])
  .ret))))))
theorem k_louperef02_own : FnOk Tryd.prog f_louperef02_own 23 [.tmp 6] c_louperef02_own := ⟨_, _, Tryd.func42, by kernel_rfl, rfl, Tryd.ntmps42, rfl, by kernel_rfl⟩

def c_louperef02_cont : LC :=
  (.seq (.reg [⟨some 4, .assign (.const (.bool false)), none, false⟩])
  (.seq (.reg [⟨some 5, .move (.tmp 1), none, false⟩,
   ⟨some 6, .move (.tmp 0), none, false⟩,
   ⟨some 7, .call ⟨.builtin .len, ⟨[(.tmp 6)]⟩, ⟨[t_string]⟩⟩, none, false⟩,
   ⟨some 8, .binOp .lss t_int (.tmp 5) (.tmp 7) t_int, none, false⟩,
   ⟨some 9, .move (.tmp 8), none, false⟩,
   ⟨some 10, .move (.tmp 0), some (some 9, true), false⟩,
   ⟨some 11, .move (.tmp 1), some (some 9, true), false⟩,
   ⟨some 12, .index t_string (.tmp 10) (.tmp 11), some (some 9, true), false⟩,
   ⟨some 13, .binOp .geq t_uint8 (.tmp 12) (.const (.int .u8 128)) t_uint8, some (some 9, true), false⟩,
   ⟨some 14, .pick (.tmp 9) (.tmp 13) (.const (.bool false)), none, false⟩,
   ⟨some 15, .move (.tmp 14), none, false⟩,
   ⟨some 16, .move (.tmp 0), some (some 15, true), false⟩,
   ⟨some 17, .move (.tmp 1), some (some 15, true), false⟩,
   ⟨some 18, .index t_string (.tmp 16) (.tmp 17), some (some 15, true), false⟩,
   ⟨some 19, .binOp .lss t_uint8 (.tmp 18) (.const (.int .u8 192)) t_uint8, some (some 15, true), false⟩,
   ⟨some 20, .pick (.tmp 15) (.tmp 19) (.const (.bool false)), none, false⟩,
   ⟨some 4, .assign (.tmp 20), none, false⟩])
  .ret))
theorem k_louperef02_cont : FnOk Tryd.prog f_louperef02_cont 21 [.tmp 4] c_louperef02_cont := ⟨_, _, Tryd.func58, by kernel_rfl, rfl, Tryd.ntmps58, rfl, by kernel_rfl⟩

def c_louperef01_Right : LC :=
  (.seq (.reg [⟨some 1, .box t_api_Node (.tmp 0), none, false⟩,
   ⟨some 2, .assign (.const (.bool false)), none, false⟩])
  (.seq (.seq (.weak (.reg [⟨some 3, .fieldAddr t_api_Node (.tmp 1) 0, none, false⟩,
   ⟨some 4, .load t_int (.tmp 3), none, false⟩,
   ⟨some 5, .binOp .neq t_int (.tmp 4) (.const (.int .i64 3)) t_int, none, false⟩,
   ⟨some 6, .move (.tmp 5), none, false⟩,
   ⟨some 7, .fieldAddr t_api_Node (.tmp 1) 1, some (some 6, false), false⟩,
   ⟨some 8, .load t_int (.tmp 7), some (some 6, false), false⟩,
   ⟨some 9, .binOp .neq t_int (.tmp 8) (.const (.int .i64 0)) t_int, some (some 6, false), false⟩,
   ⟨some 10, .pick (.tmp 6) (.const (.bool true)) (.tmp 9), none, false⟩,
   ⟨some 11, .move (.tmp 10), none, false⟩,
   ⟨some 12, .fieldAddr t_api_Node (.tmp 1) 2, some (some 11, false), false⟩,
   ⟨some 13, .load t_string (.tmp 12), some (some 11, false), false⟩,
   ⟨some 14, .binOp .neq t_string (.tmp 13) (.const (.string ⟨⟨[]⟩⟩)) t_string, some (some 11, false), false⟩,
   ⟨some 15, .pick (.tmp 11) (.const (.bool true)) (.tmp 14), none, false⟩,
   ⟨some 16, .move (.tmp 15), none, false⟩,
   ⟨some 17, .fieldAddr t_api_Node (.tmp 1) 3, some (some 16, false), false⟩,
   ⟨some 18, .load t_string (.tmp 17), some (some 16, false), false⟩,
   ⟨some 19, .call ⟨.value (.func f_louperef01_figures), ⟨[(.tmp 18)]⟩, ⟨[t_string]⟩⟩, some (some 16, false), false⟩,
   ⟨some 20, .unOp .not t_bool (.tmp 19), some (some 16, false), false⟩,
   ⟨some 21, .pick (.tmp 16) (.const (.bool true)) (.tmp 20), none, false⟩,
   ⟨some 22, .move (.tmp 21), none, false⟩,
   ⟨some 23, .fieldAddr t_api_Node (.tmp 1) 3, some (some 22, false), false⟩,
   ⟨some 24, .load t_string (.tmp 23), some (some 22, false), false⟩,
   ⟨some 25, .call ⟨.builtin .len, ⟨[(.tmp 24)]⟩, ⟨[t_string]⟩⟩, some (some 22, false), false⟩,
   ⟨some 26, .binOp .gtr t_int (.tmp 25) (.const (.int .i64 100)) t_int, some (some 22, false), false⟩,
   ⟨some 27, .pick (.tmp 22) (.const (.bool true)) (.tmp 26), none, false⟩,
   ⟨some 28, .move (.tmp 27), none, false⟩,
   ⟨some 29, .fieldAddr t_api_Node (.tmp 1) 5, some (some 28, false), false⟩,
   ⟨some 30, .load t_int (.tmp 29), some (some 28, false), false⟩,
   ⟨some 31, .binOp .lss t_int (.tmp 30) (.const (.int .i64 (-1000))) t_int, some (some 28, false), false⟩,
   ⟨some 32, .pick (.tmp 28) (.const (.bool true)) (.tmp 31), none, false⟩,
   ⟨some 33, .move (.tmp 32), none, false⟩,
   ⟨some 34, .fieldAddr t_api_Node (.tmp 1) 5, some (some 33, false), false⟩,
   ⟨some 35, .load t_int (.tmp 34), some (some 33, false), false⟩,
   ⟨some 36, .binOp .gtr t_int (.tmp 35) (.const (.int .i64 1000)) t_int, some (some 33, false), false⟩,
   ⟨some 37, .pick (.tmp 33) (.const (.bool true)) (.tmp 36), none, false⟩,
   ⟨some 38, .move (.tmp 37), none, false⟩,
   ⟨some 39, .fieldAddr t_api_Node (.tmp 1) 3, some (some 38, false), false⟩,
   ⟨some 40, .load t_string (.tmp 39), some (some 38, false), false⟩,
   ⟨some 41, .call ⟨.builtin .len, ⟨[(.tmp 40)]⟩, ⟨[t_string]⟩⟩, some (some 38, false), false⟩,
   ⟨some 42, .fieldAddr t_api_Node (.tmp 1) 5, some (some 38, false), false⟩,
   ⟨some 43, .load t_int (.tmp 42), some (some 38, false), false⟩,
   ⟨some 44, .binOp .add t_int (.tmp 41) (.tmp 43) t_int, some (some 38, false), false⟩,
   ⟨some 45, .binOp .gtr t_int (.tmp 44) (.const (.int .i64 1000)) t_int, some (some 38, false), false⟩,
   ⟨some 46, .pick (.tmp 38) (.const (.bool true)) (.tmp 45), none, false⟩]))
  (.cond (.tmp 46)
   (.seq (.reg [⟨some 2, .assign (.const (.bool false)), none, false⟩])
   .ret)
   .skip))
  (.seq (.seq (.reg [⟨some 47, .fieldAddr t_api_Node (.tmp 1) 3, none, false⟩,
   ⟨some 48, .load t_string (.tmp 47), none, false⟩,
   ⟨some 49, .binOp .eql t_string (.tmp 48) (.const (.string ⟨⟨[]⟩⟩)) t_string, none, false⟩])
  (.cond (.tmp 49)
   (.seq (.reg [⟨some 50, .fieldAddr t_api_Node (.tmp 1) 4, none, false⟩,
    ⟨some 51, .load t_bool (.tmp 50), none, false⟩,
    ⟨some 52, .unOp .not t_bool (.tmp 51), none, false⟩,
    ⟨some 53, .move (.tmp 52), none, false⟩,
    ⟨some 54, .fieldAddr t_api_Node (.tmp 1) 5, some (some 53, true), false⟩,
    ⟨some 55, .load t_int (.tmp 54), some (some 53, true), false⟩,
    ⟨some 56, .binOp .eql t_int (.tmp 55) (.const (.int .i64 0)) t_int, some (some 53, true), false⟩,
    ⟨some 57, .pick (.tmp 53) (.tmp 56) (.const (.bool false)), none, false⟩,
    ⟨some 2, .assign (.tmp 57), none, false⟩])
   .ret)
   .skip))
  (.seq (.reg [⟨some 58, .fieldAddr t_api_Node (.tmp 1) 3, none, false⟩,
   ⟨some 59, .load t_string (.tmp 58), none, false⟩,
   ⟨some 60, .index t_string (.tmp 59) (.const (.int .i64 0)), none, false⟩,
   ⟨some 61, .binOp .neq t_uint8 (.tmp 60) (.const (.int .u8 48)) t_uint8, none, false⟩,
   ⟨some 62, .move (.tmp 61), none, false⟩,
   ⟨some 63, .fieldAddr t_api_Node (.tmp 1) 3, some (some 62, true), false⟩,
   ⟨some 64, .load t_string (.tmp 63), some (some 62, true), false⟩,
   ⟨some 65, .fieldAddr t_api_Node (.tmp 1) 3, some (some 62, true), false⟩,
   ⟨some 66, .load t_string (.tmp 65), some (some 62, true), false⟩,
   ⟨some 67, .call ⟨.builtin .len, ⟨[(.tmp 66)]⟩, ⟨[t_string]⟩⟩, some (some 62, true), false⟩,
   ⟨some 68, .binOp .sub t_int (.tmp 67) (.const (.int .i64 1)) t_int, some (some 62, true), false⟩,
   ⟨some 69, .index t_string (.tmp 64) (.tmp 68), some (some 62, true), false⟩,
   ⟨some 70, .binOp .neq t_uint8 (.tmp 69) (.const (.int .u8 48)) t_uint8, some (some 62, true), false⟩,
   ⟨some 71, .pick (.tmp 62) (.tmp 70) (.const (.bool false)), none, false⟩,
   ⟨some 2, .assign (.tmp 71), none, false⟩])
  .ret))))
theorem k_louperef01_Right : FnOk Tryd.prog f_louperef01_Right 72 [.tmp 2] c_louperef01_Right := ⟨_, _, Tryd.func52, by kernel_rfl, rfl, Tryd.ntmps52, rfl, by kernel_rfl⟩

def c_val_each_1 : LC :=
  (.seq (.reg [⟨some 3, .assign (.const (.int .i64 1)), none, false⟩])
  (.seq (.reg [⟨some 6, .load t_api_Val (.tmp 1), none, false⟩,
   ⟨some 7, .indexAddr t_api_Val (.tmp 6) (.const (.int .i64 0)), none, false⟩,
   ⟨some 8, .fieldAddr t_api_Node (.tmp 7) 1, none, false⟩,
   ⟨some 9, .load t_int (.tmp 8), none, false⟩,
   ⟨some 10, .move (.const (.int .i64 0)), none, false⟩])
  (.block 0 (.loop [true, true, false, true, false, false, false, false, false, true, true, false, false, false, false, false, false, false, false, false, false, false, false, false, false, false, false, false, false, false, false, false, false, false] none
   (.seq (.reg [⟨some 11, .binOp .lss t_int (.tmp 10) (.tmp 9) t_int, none, false⟩])
    (.seq (.cond (.tmp 11)
     .skip
     (.exit 0))
    (.seq (.block 1 (.seq (.reg [⟨some 12, .load t_api_Val (.tmp 1), none, false⟩,
      ⟨some 13, .move (.tmp 3), none, false⟩,
      ⟨some 14, .call ⟨.value (.func f_val_behind), ⟨[(.tmp 12), (.tmp 13)]⟩, ⟨[t_api_Val, t_int]⟩⟩, none, false⟩,
      ⟨some 4, .assign (.tmp 14), none, false⟩])
     (.seq (.reg [⟨some 15, .load t_api_Val (.tmp 1), none, false⟩,
      ⟨some 16, .move (.tmp 3), none, false⟩,
      ⟨some 17, .move (.tmp 4), none, false⟩,
      ⟨some 18, .slice t_api_Val (.tmp 15) (some (.tmp 16)) (some (.tmp 17)) none, none, false⟩,
      ⟨some 19, .call ⟨.value (.func f_slices_Clone_api_Val_api_Node_), ⟨[(.tmp 18)]⟩, ⟨[t_api_Val]⟩⟩, none, false⟩,
      ⟨some 5, .assign (.tmp 19), none, false⟩])
     (.seq (.reg [⟨some 20, .move (.tmp 5), none, false⟩,
      ⟨some 21, .indexAddr t_api_Val (.tmp 20) (.const (.int .i64 0)), none, false⟩,
      ⟨some 22, .fieldAddr t_api_Node (.tmp 21) 2, none, false⟩,
      ⟨none, .store t_string (.tmp 22) (.const (.string ⟨⟨[]⟩⟩)), none, false⟩])
     (.seq (.seq (.weak (.reg [⟨some 23, .move (.tmp 0), none, false⟩,
      ⟨some 24, .load t_api_Val (.tmp 1), none, false⟩,
      ⟨some 25, .move (.tmp 3), none, false⟩,
      ⟨some 26, .indexAddr t_api_Val (.tmp 24) (.tmp 25), none, false⟩,
      ⟨some 27, .fieldAddr t_api_Node (.tmp 26) 2, none, false⟩,
      ⟨some 28, .load t_string (.tmp 27), none, false⟩,
      ⟨some 29, .move (.tmp 5), none, false⟩,
      ⟨some 30, .call ⟨.value (.tmp 23), ⟨[(.tmp 28), (.tmp 29)]⟩, ⟨[t_string, t_api_Val]⟩⟩, none, false⟩,
      ⟨some 31, .unOp .not t_bool (.tmp 30), none, false⟩]))
     (.cond (.tmp 31)
      .ret
      .skip))
     (.reg [⟨some 32, .move (.tmp 4), none, false⟩,
      ⟨some 3, .assign (.tmp 32), none, false⟩]))))))
    (.reg [⟨some 33, .binOp .add t_int (.tmp 10) (.const (.int .i64 1)) t_int, none, false⟩,
     ⟨some 10, .move (.tmp 33), none, false⟩]))))))))
theorem k_val_each_1 : FnOk Tryd.prog f_val_each_1 34 [] c_val_each_1 := ⟨_, _, Tryd.func49, by kernel_rfl, rfl, Tryd.ntmps49, rfl, by kernel_rfl⟩

def c_val_behind : LC :=
  (.seq (.reg [⟨some 4, .assign (.const (.int .i64 0)), none, false⟩])
  (.seq (.seq (.reg [⟨some 5, .assign (.const (.int .i64 1)), none, false⟩])
  (.block 0 (.loop [true, true, false, false, false, true, false, false, false, false, false, false, false, false, false, false, false, false, false] none
   (.seq (.seq (.reg [⟨some 6, .move (.tmp 5), none, false⟩,
     ⟨some 7, .binOp .gtr t_int (.tmp 6) (.const (.int .i64 0)) t_int, none, false⟩])
    (.cond (.tmp 7)
     .skip
     (.exit 0)))
    (.seq (.block 1 (.reg [⟨some 10, .move (.tmp 5), none, false⟩,
      ⟨some 11, .move (.tmp 0), none, false⟩,
      ⟨some 12, .move (.tmp 1), none, false⟩,
      ⟨some 13, .indexAddr t_api_Val (.tmp 11) (.tmp 12), none, false⟩,
      ⟨some 14, .fieldAddr t_api_Node (.tmp 13) 1, none, false⟩,
      ⟨some 15, .load t_int (.tmp 14), none, false⟩,
      ⟨some 16, .binOp .sub t_int (.tmp 15) (.const (.int .i64 1)) t_int, none, false⟩,
      ⟨some 17, .binOp .add t_int (.tmp 10) (.tmp 16) t_int, none, false⟩,
      ⟨some 5, .assign (.tmp 17), none, false⟩]))
    (.reg [⟨some 8, .move (.tmp 1), none, false⟩,
     ⟨some 9, .binOp .add t_int (.tmp 8) (.const (.int .i64 1)) t_int, none, false⟩,
     ⟨some 1, .assign (.tmp 9), none, false⟩]))))))
  (.seq (.reg [⟨some 18, .move (.tmp 1), none, false⟩,
   ⟨some 4, .assign (.tmp 18), none, false⟩])
  .ret)))
theorem k_val_behind : FnOk Tryd.prog f_val_behind 19 [.tmp 4] c_val_behind := ⟨_, _, Tryd.func50, by kernel_rfl, rfl, Tryd.ntmps50, rfl, by kernel_rfl⟩

def c_slices_Clone_api_Val_api_Node_ : LC :=
  (.seq (.reg [⟨some 2, .assign (.const (.slice none 0 0)), none, false⟩])
  (.seq (.seq (.reg [⟨some 3, .move (.tmp 0), none, false⟩,
   ⟨some 4, .binOp .eql t_api_Val (.tmp 3) (.const (.slice none 0 0)) t_api_Val, none, false⟩])
  (.cond (.tmp 4)
   (.seq (.reg [⟨some 2, .assign (.const (.slice none 0 0)), none, false⟩])
   .ret)
   .skip))
  (.seq (.reg [⟨some 5, .buildSlice t_api_Val 0 ⟨[]⟩, none, true⟩,
   ⟨some 6, .move (.tmp 0), none, false⟩,
   ⟨some 7, .call ⟨.builtin .append, ⟨[(.tmp 5), (.tmp 6)]⟩, ⟨[t_api_Val, t_api_Val]⟩⟩, none, false⟩,
   ⟨some 2, .assign (.tmp 7), none, false⟩])
  .ret)))
theorem k_slices_Clone_api_Val_api_Node_ : FnOk Tryd.prog f_slices_Clone_api_Val_api_Node_ 8 [.tmp 2] c_slices_Clone_api_Val_api_Node_ := ⟨_, _, Tryd.func51, by kernel_rfl, rfl, Tryd.ntmps51, rfl, by kernel_rfl⟩

def c_louperef01_figures : LC :=
  (.seq (.reg [⟨some 2, .assign (.const (.bool false)), none, false⟩])
  (.seq (.seq (.reg [⟨some 3, .assign (.const (.int .i64 0)), none, false⟩])
  (.block 0 (.loop [true, false, false, true, false, false, false, false, false, false, false, false, false, false, false, false, false, false, false, false] none
   (.seq (.seq (.reg [⟨some 4, .move (.tmp 3), none, false⟩,
     ⟨some 5, .move (.tmp 0), none, false⟩,
     ⟨some 6, .call ⟨.builtin .len, ⟨[(.tmp 5)]⟩, ⟨[t_string]⟩⟩, none, false⟩,
     ⟨some 7, .binOp .lss t_int (.tmp 4) (.tmp 6) t_int, none, false⟩])
    (.cond (.tmp 7)
     .skip
     (.exit 0)))
    (.seq (.block 1 (.seq (.reg [⟨some 10, .move (.tmp 0), none, false⟩,
      ⟨some 11, .move (.tmp 3), none, false⟩,
      ⟨some 12, .index t_string (.tmp 10) (.tmp 11), none, false⟩,
      ⟨some 13, .binOp .lss t_uint8 (.tmp 12) (.const (.int .u8 48)) t_uint8, none, false⟩,
      ⟨some 14, .move (.tmp 13), none, false⟩,
      ⟨some 15, .move (.tmp 0), some (some 14, false), false⟩,
      ⟨some 16, .move (.tmp 3), some (some 14, false), false⟩,
      ⟨some 17, .index t_string (.tmp 15) (.tmp 16), some (some 14, false), false⟩,
      ⟨some 18, .binOp .gtr t_uint8 (.tmp 17) (.const (.int .u8 57)) t_uint8, some (some 14, false), false⟩,
      ⟨some 19, .pick (.tmp 14) (.const (.bool true)) (.tmp 18), none, false⟩])
     (.cond (.tmp 19)
      (.seq (.reg [⟨some 2, .assign (.const (.bool false)), none, false⟩])
      .ret)
      .skip)))
    (.reg [⟨some 8, .move (.tmp 3), none, false⟩,
     ⟨some 9, .binOp .add t_int (.tmp 8) (.const (.int .i64 1)) t_int, none, false⟩,
     ⟨some 3, .assign (.tmp 9), none, false⟩]))))))
  (.seq (.reg [⟨some 2, .assign (.const (.bool true)), none, false⟩])
  .ret)))
theorem k_louperef01_figures : FnOk Tryd.prog f_louperef01_figures 20 [.tmp 2] c_louperef01_figures := ⟨_, _, Tryd.func59, by kernel_rfl, rfl, Tryd.ntmps59, rfl, by kernel_rfl⟩

end Lp

/-! LpZ -/

namespace Lp
open Go

/-- What goes on with a value, out of simp's sight. -/
structure HK {α : Type} (K : α → Prop) : Type where

def atO {α : Type} {K : α → Prop} (o : Option α) (_h : HK K) : Prop := ∃ x, o = some x ∧ K x

theorem atO_mk {α : Type} {K : α → Prop} {o : Option α} (x : α) (h : o = some x) (hk : K x) : atO o (HK.mk : HK K) := ⟨x, h, hk⟩

theorem atR {α : Type} (K : α → Prop) : (∀ x, atO (some x) (HK.mk : HK K) = K x) ∧ (∀ (a : α) l, (a :: l)[0]? = some a) ∧ (∀ (a : α) l (n : Nat), (a :: l)[n + 1]? = l[n]?) :=
  ⟨fun x => by simp [atO], fun _ _ => rfl, fun _ _ _ => by simp⟩

def slK (k : TK) (K : TypeId → Prop) : Prop := match k with
  | .slice e => K e
  | _ => False
def arK (k : TK) (K : Nat → TypeId → Prop) : Prop := match k with
  | .array n e => K n e
  | _ => False
def strK (k : TK) (X : Prop) : Prop := match k with
  | .str => X
  | _ => False

@[congr] theorem slK_congr {k k' : TK} {K : TypeId → Prop} (h : k = k') : slK k K = slK k' K := by rw [h]
@[congr] theorem arK_congr {k k' : TK} {K : Nat → TypeId → Prop} (h : k = k') : arK k K = arK k' K := by rw [h]
@[congr] theorem strK_congr {k k' : TK} {X : Prop} (h : k = k') : strK k X = strK k' X := by rw [h]

theorem skR : (∀ e K, slK (.slice e) K = K e) ∧ (∀ n e K, arK (.array n e) K = K n e) ∧ (∀ X, strK .str X = X) := ⟨fun _ _ => rfl, fun _ _ _ => rfl, fun _ => rfl⟩

theorem genR (D : TypeId → TInfo) (objs : List Obj) (K : KT) :
    (∀ t sz xs q k n, indexAddrR D t (.sl sz xs q) (.int k n) objs K = slK (D t).kind fun e => (D e).kind ≠ .none ∧ 0 ≤ n ∧ (D e).size = sz ∧ atO xs[n.toNat]? (HK.mk : HK fun y => K (.addr y) objs 0)) ∧
    (∀ t k ver k' n, indexAddrR D t (.osl k ver) (.int k' n) objs K = slK (D t).kind fun e => (D e).kind ≠ .none ∧ 0 ≤ n ∧ ∃ o, objs[k]? = some o ∧ o.live = true ∧ o.ver = ver ∧ n < o.xs.length ∧ (D e).size = o.sz ∧ K (.optr k ver n.toNat 0) objs (4 + 2 * k)) ∧
    (∀ t cs k n, indexAddrR D t (.addr (.agg cs)) (.int k n) objs K = arK (D t).kind fun m e => (D e).kind ≠ .none ∧ 0 ≤ n ∧ n < m ∧ (n.toNat + 1) * (D e).size ≤ cs.length ∧ ((D e).agg = false → (D e).size = 1) ∧ cs.all (fun c => !c.isAgg) = true ∧
      K (.addr (sub cs (n.toNat * (D e).size) (D e).size (D e).agg)) objs 0) ∧
    (∀ t k ver i f k' n, indexAddrR D t (.optr k ver i f) (.int k' n) objs K = arK (D t).kind fun m e => (D e).kind ≠ .none ∧ 0 ≤ n ∧ n < m ∧ ∃ o, objs[k]? = some o ∧ o.live = true ∧ o.ver = ver ∧ K (.optr k ver i (f + n.toNat * (D e).size)) objs (4 + 2 * k)) ∧
    (∀ t s k n, indexR D t (.str s) (.int k n) objs K = strK (D t).kind (0 ≤ n ∧ atO s[n.toNat]? (HK.mk : HK fun b => K (.int .u8 b.toNat) objs 0))) ∧
    (∀ t cs k n, indexR D t (.agg cs) (.int k n) objs K = arK (D t).kind fun m e => (D e).kind ≠ .none ∧ 0 ≤ n ∧ n < m ∧ (n.toNat + 1) * (D e).size ≤ cs.length ∧ (D e).size ≠ 0 ∧ K (sub cs (n.toNat * (D e).size) (D e).size (D e).agg) objs 0) ∧
    (∀ t cs f, fieldAddrR D t (.addr (.agg cs)) f objs K = fieldOf D t f fun off ti => off + ti.size ≤ cs.length ∧ (ti.agg = false → ti.size = 1) ∧ cs.all (fun c => !c.isAgg) = true ∧ K (.addr (sub cs off ti.size ti.agg)) objs 0) ∧
    (∀ t k ver i f' f, fieldAddrR D t (.optr k ver i f') f objs K = ∃ o, objs[k]? = some o ∧ o.live = true ∧ o.ver = ver ∧ fieldOf D t f fun off _ => K (.optr k ver i (f' + off)) objs (4 + 2 * k)) ∧
    (∀ t cs f, fieldR D t (.agg cs) f objs K = fieldOf D t f fun off ti => off + ti.size ≤ cs.length ∧ K (sub cs off ti.size ti.agg) objs 0) ∧
    (∀ t s, lenR D t (.str s) objs K = strK (D t).kind (K (.int .i64 s.length) objs 0)) ∧
    (∀ t sz xs q, lenR D t (.sl sz xs q) objs K = slK (D t).kind fun _ => K (.int .i64 xs.length) objs 0) ∧
    (∀ t k ver, lenR D t (.osl k ver) objs K = slK (D t).kind fun _ => ∃ o, objs[k]? = some o ∧ o.live = true ∧ o.ver = ver ∧ K (.int .i64 o.xs.length) objs (4 + 2 * k)) ∧
    (∀ t s lo hi, sliceR D t (.str s) lo hi objs K = strK (D t).kind (boundR lo 0 fun l => boundR hi s.length fun h => 0 ≤ l ∧ l ≤ h ∧ h ≤ s.length ∧ K (.str ((s.take h.toNat).drop l.toNat)) objs 0)) ∧
    (∀ t sz xs q lo hi, sliceR D t (.sl sz xs q) lo hi objs K = slK (D t).kind fun e => (D e).kind ≠ .none ∧ (xs = [] ∨ (D e).size = sz) ∧ boundR lo 0 fun l => boundR hi xs.length fun h => 0 ≤ l ∧ l ≤ h ∧ h ≤ xs.length ∧
      K (.sl sz ((xs.take h.toNat).drop l.toNat) q) objs 0) ∧
    (∀ t k ver lo hi, sliceR D t (.osl k ver) lo hi objs K = slK (D t).kind fun e => (D e).kind ≠ .none ∧ ∃ o, objs[k]? = some o ∧ o.live = true ∧ o.ver = ver ∧ (D e).size = o.sz ∧ lo = none ∧ boundR hi o.xs.length fun h => 0 ≤ h ∧ h ≤ o.xs.length ∧
      K (.osl k (ver + 1)) (objs.set k { o with xs := o.xs.take h.toNat, ver := ver + 1 }) (5 + 2 * k)) := by
  refine ⟨fun t sz xs q k n => ?_, fun t k ver k' n => ?_, fun t cs k n => ?_, fun t k ver i f k' n => ?_, fun t s k n => ?_, fun t cs k n => ?_, fun _ _ _ => rfl, fun _ _ _ _ _ _ => rfl, fun _ _ _ => rfl, fun t s => ?_, fun t sz xs q => ?_, fun t k ver => ?_, fun t s lo hi => ?_, fun t sz xs q lo hi => ?_, fun t k ver lo hi => ?_⟩
  all_goals try simp only [indexAddrR, indexR, lenR, sliceR]
  all_goals cases (D t).kind <;> simp only [slK, arK, strK, atO]
  apply propext
  constructor
  · rintro ⟨h1, h2, y, h3, h4, h5⟩; exact ⟨h1, h2, h4, y, h3, h5⟩
  · rintro ⟨h1, h2, h4, y, h3, h5⟩; exact ⟨h1, h2, y, h3, h4, h5⟩

theorem ldR (objs : List Obj) (K : KT) :
    (∀ ti x, loadR ti (.addr x) objs K = (ti.kind ≠ .none ∧ x.cells.length = ti.size ∧ x.isAgg = ti.agg ∧ K x objs 0)) ∧
    (∀ ti k ver i f, loadR ti (.optr k ver i f) objs K = ∃ o e, objs[k]? = some o ∧ o.live = true ∧ o.ver = ver ∧ o.xs[i]? = some e ∧ ti.kind ≠ .none ∧ f + ti.size ≤ e.cells.length ∧
      (ti.agg = false → ti.size = 1) ∧ e.cells.all (fun c => !c.isAgg) = true ∧ K (sub e.cells f ti.size ti.agg) objs (4 + 2 * k)) := ⟨fun _ _ => rfl, fun _ _ _ _ _ => rfl⟩

theorem srcK (D : TypeId → TInfo) (objs : List Obj) (K : List PV → Bool → Prop) :
    (∀ t sz xs q, srcR D t (.sl sz xs q) objs K = slK (D t).kind fun _ => K xs false) ∧
    (∀ t k ver, srcR D t (.osl k ver) objs K = slK (D t).kind fun _ => ∃ o, objs[k]? = some o ∧ o.live = true ∧ o.ver = ver ∧ K o.xs true) ∧
    (∀ t s, srcR D t (.str s) objs K = strK (D t).kind (K (s.map fun b => .int .u8 b.toNat) false)) := by
  refine ⟨fun t sz xs q => ?_, fun t k ver => ?_, fun t s => ?_⟩
  all_goals simp only [srcR]
  all_goals cases (D t).kind <;> simp only [slK, strK]

@[congr] theorem srcR_congr {D : TypeId → TInfo} {t : TypeId} {x x' : PV} {objs objs' : List Obj} {K : List PV → Bool → Prop} (h : x = x') (ho : objs = objs') : srcR D t x objs K = srcR D t x' objs' K := by rw [h, ho]

theorem ntR : noTwo [] = true ∧ (∀ l, noTwo (0 :: l) = noTwo l) ∧ (∀ l, noTwo (1 :: l) = noTwo l) ∧ (∀ l, noTwo (4 :: l) = noTwo l) ∧ (∀ l, noTwo (6 :: l) = noTwo l) ∧ (∀ l, noTwo (8 :: l) = noTwo l) ∧ (∀ l, noTwo (10 :: l) = noTwo l) :=
  ⟨rfl, fun _ => rfl, fun _ => rfl, fun _ => rfl, fun _ => rfl, fun _ => rfl, fun _ => rfl⟩

/-! ### Rows of encoded things -/

theorem rowR {α : Type} {E : List α → PV} {sz : Nat} {enc : α → PV} (hE : ∀ l, E l = .sl sz (l.map enc) none) (D : TypeId → TInfo) (objs : List Obj) (K : KT) :
    (∀ t l k n, indexAddrR D t (E l) (.int k n) objs K = slK (D t).kind fun e => (D e).kind ≠ .none ∧ 0 ≤ n ∧ (D e).size = sz ∧ atO l[n.toNat]? (HK.mk : HK fun y => K (.addr (enc y)) objs 0)) ∧
    (∀ t l, lenR D t (E l) objs K = slK (D t).kind fun _ => K (.int .i64 l.length) objs 0) ∧
    (∀ t l lo hi, sliceR D t (E l) lo hi objs K = slK (D t).kind fun e => (D e).kind ≠ .none ∧ (l = [] ∨ (D e).size = sz) ∧ boundR lo 0 fun a => boundR hi l.length fun h => 0 ≤ a ∧ a ≤ h ∧ h ≤ l.length ∧
      K (E ((l.take h.toNat).drop a.toNat)) objs 0) := by
  refine ⟨fun t l k n => ?_, fun t l => ?_, fun t l lo hi => ?_⟩
  all_goals simp only [hE, (genR D objs K).1, (genR D objs K).2.2.2.2.2.2.2.2.2.2.1, (genR D objs K).2.2.2.2.2.2.2.2.2.2.2.2.2.1]
  all_goals cases (D t).kind <;> simp only [slK, atO, List.length_map, List.map_eq_nil_iff, List.map_drop, List.map_take]
  apply propext
  constructor
  · rintro ⟨h1, h2, h4, y, h3, h5⟩
    rw [List.getElem?_map] at h3
    cases hx : l[n.toNat]? with
    | none => rw [hx] at h3; simp at h3
    | some x => rw [hx] at h3; simp only [Option.map_some, Option.some.injEq] at h3; exact ⟨h1, h2, h4, x, rfl, h3 ▸ h5⟩
  · rintro ⟨h1, h2, h4, y, h3, h5⟩
    exact ⟨h1, h2, h4, enc y, by rw [List.getElem?_map, h3]; rfl, h5⟩

theorem rowS {α : Type} {E : List α → PV} {sz : Nat} {enc : α → PV} (hE : ∀ l, E l = .sl sz (l.map enc) none) (D : TypeId → TInfo) (objs : List Obj) (K : List PV → Bool → Prop) :
    (∀ t l, srcR D t (E l) objs K = slK (D t).kind fun _ => K (l.map enc) false) := by
  intro t l
  rw [hE]
  exact (srcK D objs K).1 ..

/-- What cells know of it. -/
theorem rowC {α : Type} {E : List α → PV} {sz : Nat} {enc : α → PV} (hE : ∀ l, E l = .sl sz (l.map enc) none) :
    (∀ l, (E l).cells = [E l]) ∧ (∀ l, (E l).isAgg = false) ∧ (∀ l, (E l).pure = true) ∧ (∀ l, (E l).ref = false) ∧ (∀ l, (E l).solid = true) ∧ (∀ l, (E l).storable = true) ∧
    (∀ d n O l, frz d n O (E l) = E l) ∧ (∀ d n O l, frzT d n O (E l) = E l) := by
  refine ⟨fun l => ?_, fun l => ?_, fun l => ?_, fun l => ?_, fun l => ?_, fun l => ?_, fun _ _ _ l => ?_, fun _ _ _ l => ?_⟩
  all_goals rw [hE]; rfl

/-- What is read back of an encoded thing, out of simp's sight. -/
def ofE {α : Type} (E : α → PV) {K : α → Prop} (x : PV) (_h : HK K) : Prop := ∃ v, x = E v ∧ K v

theorem ofE_mk {α : Type} {E : α → PV} {K : α → Prop} {x : PV} (v : α) (h : x = E v) (hk : K v) : ofE E x (HK.mk : HK K) := ⟨v, h, hk⟩

theorem ofE_inj {α : Type} {E : α → PV} (hE : ∀ a b, E a = E b → a = b) (K : α → Prop) (v : α) : ofE E (E v) (HK.mk : HK K) = K v :=
  propext ⟨fun ⟨w, h, hk⟩ => hE v w h ▸ hk, fun hk => ⟨v, rfl, hk⟩⟩

theorem row_inj {α : Type} {E : List α → PV} {sz : Nat} {enc : α → PV} (hE : ∀ l, E l = .sl sz (l.map enc) none) (he : ∀ a b, enc a = enc b → a = b) : ∀ a b, E a = E b → a = b := by
  intro a b h
  rw [hE, hE] at h
  injection h with _ h _
  induction a generalizing b with
  | nil => cases b with
    | nil => rfl
    | cons y ys => simp at h
  | cons x xs ih => cases b with
    | nil => simp at h
    | cons y ys =>
      simp only [List.map_cons, List.cons.injEq] at h
      rw [he x y h.1, ih ys h.2]

theorem exS {α : Type} (a : α) (q : α → Prop) : (∃ o, some a = some o ∧ q o) = q a := by simp

theorem stoR : (∀ k n, PV.storable (.int k n) = true) ∧ (∀ b, PV.storable (.bool b) = true) ∧ (∀ s, PV.storable (.str s) = true) ∧ (∀ z xs q, PV.storable (.sl z xs q) = true) ∧
    (∀ k v, PV.storable (.osl k v) = true) ∧ (∀ k v i f, PV.storable (.optr k v i f) = true) ∧ (∀ x, PV.storable (.addr x) = true) :=
  ⟨fun _ _ => rfl, fun _ => rfl, fun _ => rfl, fun _ _ _ => rfl, fun _ _ => rfl, fun _ _ _ _ => rfl, fun _ => rfl⟩

theorem mapApp {α β : Type} (f : α → β) (l m : List α) : l.map f ++ m.map f = (l ++ m).map f := by simp

/-- What freezing leaves as it is. -/
def Inert {α : Type} (enc : α → PV) : Prop := ∀ d n objs x, PV.mapCells (frzI d n objs) (enc x) = enc x

theorem frzRow {α : Type} {E : List α → PV} {sz : Nat} {enc : α → PV} (hE : ∀ l, E l = .sl sz (l.map enc) none) (h : Inert enc) :
    (∀ d ty l v rest, frz (d + 1) 0 (⟨ty, sz, l.map enc, true, v⟩ :: rest) (.osl 0 v) = E l) ∧
    (∀ d ty l v o rest, frz (d + 1) 0 (o :: ⟨ty, sz, l.map enc, true, v⟩ :: rest) (.osl 1 v) = E l) ∧
    (∀ d ty l v o o' rest, frz (d + 1) 0 (o :: o' :: ⟨ty, sz, l.map enc, true, v⟩ :: rest) (.osl 2 v) = E l) := by
  have key : ∀ d ty l v objs k, objs[k]? = some ⟨ty, sz, l.map enc, true, v⟩ → frz (d + 1) 0 objs (.osl k v) = E l := by
    intro d ty l v objs k hk
    simp only [frz, Nat.not_lt_zero, if_false, frzI, hk, Nat.zero_le, decide_true, Bool.and_self, BEq.rfl, if_true]
    rw [hE]
    congr 1
    rw [List.map_map]
    exact List.map_congr_left fun x _ => h d 0 objs x
  exact ⟨fun d ty l v rest => key d ty l v _ 0 rfl, fun d ty l v o rest => key d ty l v _ 1 rfl, fun d ty l v o o' rest => key d ty l v _ 2 rfl⟩

/-- Elements of a row may be appended. -/
theorem rowA {α : Type} {enc : α → PV} {sz : Nat} (h1 : ∀ x, (enc x).cells.length = sz) (h2 : ∀ x, (enc x).cells.all PV.storable = true) (l : List α) :
    (∀ y, y ∈ l.map enc → y.cells.length = sz ∧ y.cells.all PV.storable = true) = True := by
  refine eq_true fun y hy => ?_
  obtain ⟨x, _, rfl⟩ := List.mem_map.1 hy
  exact ⟨h1 x, h2 x⟩

theorem rowA1 (y0 : PV) (sz : Nat) : (∀ y, y ∈ [y0] → y.cells.length = sz ∧ y.cells.all PV.storable = true) = (y0.cells.length = sz ∧ y0.cells.all PV.storable = true) := by simp

theorem neO (E : PV) (h : E.ref = false) (k : Nat) : (∀ k' v' : Nat, E = .osl k' v' → ¬ k' = k) = True := by
  refine eq_true fun k' v' he => ?_
  rw [he] at h; cases h


/-- What a loop keeps, in order. -/
def keepA : List Bool → Nat → List (Nat × PV) → List (Nat × PV)
  | [], _, _ => []
  | true :: ks, i, l => (i, lkA l i) :: keepA ks (i + 1) l
  | false :: ks, i, l => keepA ks (i + 1) l

theorem lkA_keep : ∀ (ks : List Bool) (j : Nat) (l : List (Nat × PV)) (i : Nat), lkA (keepA ks j l) i = if j ≤ i ∧ ks[i - j]? = some true then lkA l i else .dead
  | [], j, l, i => by simp [keepA, lkA]
  | true :: ks, j, l, i => by
    simp only [keepA, lkA]
    by_cases h : i = j
    · subst h; simp
    · rw [if_neg h, lkA_keep ks (j + 1) l i]
      by_cases hj : j + 1 ≤ i
      · have e : i - j = (i - (j + 1)) + 1 := by omega
        simp only [e, List.getElem?_cons_succ, hj, true_and, show j ≤ i by omega]
      · rw [if_neg (by omega), if_neg (by omega)]
  | false :: ks, j, l, i => by
    simp only [keepA]
    rw [lkA_keep ks (j + 1) l i]
    by_cases h : i = j
    · subst h; rw [if_neg (by omega), if_neg (by simp)]
    · by_cases hj : j + 1 ≤ i
      · have e : i - j = (i - (j + 1)) + 1 := by omega
        simp only [e, List.getElem?_cons_succ, hj, true_and, show j ≤ i by omega]
      · rw [if_neg (by omega), if_neg (by omega)]

theorem fgt_keep (ks : List Bool) (n : Nat) (l : List (Nat × PV)) : fgt ks (tmA n l) = tmA n (keepA ks 0 l) := by
  refine tmA_ext (by simp [fgt_length, tmA_length]) fun i hi => ?_
  rw [fgt_get?, tmA_get, if_pos hi, lkA_keep]
  simp

theorem normR :
    (∀ ks n l ob, St.norm ks none ⟨tmA n l, ob⟩ = ⟨tmA n (keepA ks 0 l), ob⟩) ∧
    (∀ ks d k n l ob, St.norm ks (some (d, k)) ⟨tmA n l, ob⟩ = St.freeze d k ⟨tmA n (keepA ks 0 l), ob⟩) := by
  refine ⟨fun ks n l ob => ?_, fun ks d k n l ob => ?_⟩
  · simp only [St.norm, St.forget, fgt_keep]
  · simp only [St.norm, St.forget, fgt_keep]

theorem keepR : (∀ i l, keepA [] i l = []) ∧ (∀ ks i l, keepA (true :: ks) i l = (i, lkA l i) :: keepA ks (i + 1) l) ∧ (∀ ks i l, keepA (false :: ks) i l = keepA ks (i + 1) l) :=
  ⟨fun _ _ => rfl, fun _ _ _ => rfl, fun _ _ _ => rfl⟩


theorem caR2 (T : Know) (K : KT) (objs : List Obj) (pt : Bool) :
    (∀ g args, callT T pt (.fn g [] []) args objs K = T.fn g args objs K) ∧
    (∀ g c, callT T pt (.fn g [] [c]) [] objs K = T.fn g [c] objs K) ∧
    (∀ g c a, callT T pt (.fn g [] [c]) [a] objs K = T.fn g [a, c] objs K) ∧
    (∀ g c a b, callT T pt (.fn g [] [c]) [a, b] objs K = T.fn g [a, b, c] objs K) ∧
    (∀ g c d a, callT T pt (.fn g [] [c, d]) [a] objs K = T.fn g [a, c, d] objs K) ∧
    (∀ g c d a b, callT T pt (.fn g [] [c, d]) [a, b] objs K = T.fn g [a, b, c, d] objs K) ∧
    (∀ l args, callT T pt (.yld l) args objs K = (l = T.y ∧ pt = true ∧ args.all PV.pure = true ∧ T.Y args objs fun b o => K (.bool b) o 2)) := by
  refine ⟨fun g args => ?_, fun _ _ => rfl, fun _ _ _ => rfl, fun _ _ _ _ => rfl, fun _ _ _ _ => rfl, fun _ _ _ _ _ => rfl, fun _ _ => rfl⟩
  simp [callT]

theorem taR3 (K : KT) (objs : List Obj) (args : List PV) (c : Ctr) (l : List (FuncId × Ctr)) (f : FuncId) :
    (tabF ((f, c) :: l) f args objs K = c args objs K) ∧ (∀ g, (f == g) = false → tabF ((g, c) :: l) f args objs K = tabF l f args objs K) := by
  refine ⟨by simp [tabF], fun g h => ?_⟩
  rw [taR, h]; rfl


@[congr] theorem builtinR_congr {D : TypeId → TInfo} {b : Builtin} {ats ats' : List TypeId} {args args' : List Operand} {ev : Operand → PV} {objs : List Obj} {K : KT} (h : ats = ats') (h1 : args = args') : builtinR D b ats args ev objs K = builtinR D b ats' args' ev objs K := by rw [h, h1]


theorem opsR2 (P : Program) (D : TypeId → TInfo) (T : Know) (w pt : Bool) (ev : Operand → PV) (objs : List Obj) (K : KT) :
    (∀ x, opT P D T w pt ev objs (.move x) K = K (ev x) objs 0) ∧ (∀ x, opT P D T w pt ev objs (.assign x) K = K (ev x) objs 0) ∧
    (∀ c x y, opT P D T w pt ev objs (.pick c x y) K = pickR (ev c) (ev x) (ev y) objs K) ∧
    (∀ t, opT P D T w pt ev objs (.alloc t) K = allocR t (D t) objs K) ∧
    (∀ t x, opT P D T w pt ev objs (.box t x) K = boxR t (D t) (ev x) objs K) ∧
    (∀ t ps, opT P D T w pt ev objs (.build t ps) K = buildR' D t (ps.toList.map fun x => (x.1, ev x.2)) objs K) ∧
    (∀ t n ps, opT P D T w pt ev objs (.buildSlice t n ps) K = buildSliceR D w t n (ps.toList.map fun x => (x.1, ev x.2)) objs K) ∧
    (∀ t x, opT P D T w pt ev objs (.load t x) K = loadR (D t) (ev x) objs K) ∧
    (∀ t x y, opT P D T w pt ev objs (.store t x y) K = storeR (D t) (ev x) (ev y) objs K) ∧
    (∀ x, opT P D T w pt ev objs (.nilCheck x) K = nilCheckR (ev x) objs K) ∧
    (∀ b t x y t', opT P D T w pt ev objs (.binOp b t x y t') K = binR P (D t) t b (ev x) (ev y) fun r => K r objs 0) ∧
    (∀ u t x, opT P D T w pt ev objs (.unOp u t x) K = unR u (ev x) fun r => K r objs 0) ∧
    (∀ s t x, opT P D T w pt ev objs (.convert s t x) K = convO D s t (ev x) objs K) ∧
    (∀ f first cap, opT P D T w pt ev objs (.makeFunc (.func f) first cap) K = makeFuncR f (first.toList.map ev) (cap.toList.map ev) objs K) ∧
    (∀ t l c, opT P D T w pt ev objs (.makeSlice t l c) K = makeSliceR D t (ev l) (ev c) objs K) ∧
    (∀ t x lo hi, opT P D T w pt ev objs (.slice t x lo hi none) K = sliceR D t (ev x) (lo.map ev) (hi.map ev) objs K) ∧
    (∀ t x f, opT P D T w pt ev objs (.fieldAddr t x f) K = fieldAddrR D t (ev x) f objs K) ∧
    (∀ t x f, opT P D T w pt ev objs (.field t x f) K = fieldR D t (ev x) f objs K) ∧
    (∀ t x i, opT P D T w pt ev objs (.indexAddr t x i) K = indexAddrR D t (ev x) (ev i) objs K) ∧
    (∀ t x i, opT P D T w pt ev objs (.index t x i) K = indexR D t (ev x) (ev i) objs K) ∧
    (∀ x i, opT P D T w pt ev objs (.extract x i) K = extractR (ev x) i objs K) ∧
    (∀ t x, opT P D T w pt ev objs (.call { callee := .builtin .len, args := ⟨[x]⟩, argTypes := ⟨[t]⟩ }) K = lenR D t (ev x) objs K) ∧
    (∀ t u s x, opT P D T w pt ev objs (.call { callee := .builtin .append, args := ⟨[s, x]⟩, argTypes := ⟨[t, u]⟩ }) K = appendR D t u (ev s) (ev x) objs K) ∧
    (∀ x y ats, opT P D T w pt ev objs (.call { callee := .builtin .max, args := ⟨[x, y]⟩, argTypes := ats }) K = minmaxR true [ev x, ev y] fun r => K r objs 0) ∧
    (∀ x y ats, opT P D T w pt ev objs (.call { callee := .builtin .min, args := ⟨[x, y]⟩, argTypes := ats }) K = minmaxR false [ev x, ev y] fun r => K r objs 0) ∧
    (∀ f args ats, opT P D T w pt ev objs (.call { callee := .value f, args := args, argTypes := ats }) K = callT T pt (ev f) (args.toList.map ev) objs K) :=
  ⟨fun _ => rfl, fun _ => rfl, fun _ _ _ => rfl, fun _ => rfl, fun _ _ => rfl, fun _ _ => rfl, fun _ _ _ => rfl, fun _ _ => rfl, fun _ _ _ => rfl, fun _ => rfl, fun _ _ _ _ _ => rfl, fun _ _ _ => rfl, fun _ _ _ => rfl,
   fun _ _ _ => rfl, fun _ _ _ => rfl, fun _ _ _ _ => rfl, fun _ _ _ => rfl, fun _ _ _ => rfl, fun _ _ _ => rfl, fun _ _ _ => rfl, fun _ _ => rfl, fun _ _ => rfl, fun _ _ _ _ => rfl, fun _ _ _ => rfl, fun _ _ _ => rfl, fun _ _ _ => rfl⟩


theorem exS2 {α β : Type} (a : α) (q : α → β → Prop) : (∃ o e, some a = some o ∧ q o e) = ∃ e, q a e := by simp

theorem setRow {α : Type} {enc : α → PV} (h : ∀ x y : α, (enc x).putCells 0 (enc y).cells = enc y) (l : List α) (i : Nat) (x y : α) : (l.map enc).set i ((enc x).putCells 0 (enc y).cells) = (l.set i y).map enc := by
  rw [h, List.map_set]


/-- The steps of a region; states stay in their form. -/
theorem lrR3 (P : Program) (D : TypeId → TInfo) (T : Know) :
    (∀ S ts (K : St → List Nat → Prop), LR P D T [] S ts K = K S ts) ∧
    (∀ d o w rest n l ob ts (K : St → List Nat → Prop), LR P D T (⟨some d, o, none, w⟩ :: rest) ⟨tmA n l, ob⟩ ts K =
      opT P D T w ((tmA n l).all PV.pure) (St.ev ⟨tmA n l, ob⟩) ob o fun r objs' t => LR P D T rest ⟨tmA n ((d, r) :: l), objs'⟩ (ts ++ [t]) K) ∧
    (∀ o w rest n l ob ts (K : St → List Nat → Prop), LR P D T (⟨none, o, none, w⟩ :: rest) ⟨tmA n l, ob⟩ ts K =
      opT P D T w ((tmA n l).all PV.pure) (St.ev ⟨tmA n l, ob⟩) ob o fun r objs' t => LR P D T rest ⟨tmA n l, objs'⟩ (ts ++ [t]) K) ∧
    (∀ d o g v w rest n l ob ts (K : St → List Nat → Prop), LR P D T (⟨some d, o, some (some g, v), w⟩ :: rest) ⟨tmA n l, ob⟩ ts K =
      guardV ((tmA n l).getD g .dead) g v ⟨tmA n l, ob⟩ (fun S => LR P D T (⟨some d, o, none, w⟩ :: rest) S ts K) (fun S => LR P D T rest (S.put (some d) (.tup [])) (ts ++ [0]) K)) ∧
    (∀ o g v w rest n l ob ts (K : St → List Nat → Prop), LR P D T (⟨none, o, some (some g, v), w⟩ :: rest) ⟨tmA n l, ob⟩ ts K =
      guardV ((tmA n l).getD g .dead) g v ⟨tmA n l, ob⟩ (fun S => LR P D T (⟨none, o, none, w⟩ :: rest) S ts K) (fun S => LR P D T rest S (ts ++ [0]) K)) := by
  refine ⟨fun _ _ _ => rfl, fun d o w rest n l ob ts K => ?_, fun o w rest n l ob ts K => rfl, fun d o g v w rest n l ob ts K => rfl, fun o g v w rest n l ob ts K => rfl⟩
  simp only [← taR2.1]
  rfl

theorem guR3 :
    (∀ b d n l ob (X Y : St → Prop), guardV (.bool b) d true ⟨tmA n l, ob⟩ X Y = ifP b (X ⟨tmA n ((d, .bool true) :: l), ob⟩) (Y ⟨tmA n ((d, .bool false) :: l), ob⟩)) ∧
    (∀ b d n l ob (X Y : St → Prop), guardV (.bool b) d false ⟨tmA n l, ob⟩ X Y = ifP b (Y ⟨tmA n ((d, .bool true) :: l), ob⟩) (X ⟨tmA n ((d, .bool false) :: l), ob⟩)) ∧
    (∀ d w (S : St) (X Y : St → Prop), guardV (.tup []) d w S X Y = Y S) := by
  refine ⟨fun b d n l ob X Y => ?_, fun b d n l ob X Y => ?_, fun _ _ _ _ _ => rfl⟩
  · simp only [guR2, taR2.1]
  · simp only [guR2, taR2.1]

/-- Putting, straight. -/
theorem putR3 : (∀ n l ob d p, St.put ⟨tmA n l, ob⟩ (some d) p = ⟨tmA n ((d, p) :: l), ob⟩) := fun n l ob d p => by
  rw [← taR2.1]; rfl


/-- As FnOk.pure, for one result; what is asked at the end cannot be unfolded (the kernel would, and be lost). -/
theorem FnOk.pureG {P : Program} {D : TypeId → TInfo} {T : Know} {f : FuncId} {n t : Nat} {C : LC} {args : List PV} {r : PV} (h : FnOk P f n [.tmp t] C) (d : Nat) (hD : ∀ t, TOk P t (D t)) (hT : KOk P none Etop T) (hm : P.follows .mixedOrders = true) (ht : t < n)
    (hw : ∀ Q : Exit → St → Prop, (∀ l ob, Q .ret ⟨tmA n l, ob⟩ = (r = frzT d 0 ob (lkA l t))) → wpc P D T C Q (startS args n)) : FnSpec P f args [] r [] := by
  refine h.pure d hD hT hm (by simp) (hw _ fun l ob => ?_)
  simp only [retR, outL, taR2.2.1 n l t ht, List.map_cons, List.map_nil, onePV]

theorem FnOk.pureG2 {P : Program} {D : TypeId → TInfo} {T : Know} {f : FuncId} {n t u : Nat} {C : LC} {args : List PV} {r : PV} (h : FnOk P f n [.tmp t, .tmp u] C) (d : Nat) (hD : ∀ t, TOk P t (D t)) (hT : KOk P none Etop T) (hm : P.follows .mixedOrders = true) (ht : t < n) (hu : u < n)
    (hw : ∀ Q : Exit → St → Prop, (∀ l ob, Q .ret ⟨tmA n l, ob⟩ = (r = .tup [frzT d 0 ob (lkA l t), frzT d 0 ob (lkA l u)])) → wpc P D T C Q (startS args n)) : FnSpec P f args [] r [] := by
  refine h.pure d hD hT hm (by simp) (hw _ fun l ob => ?_)
  simp only [retR, outL, taR2.2.1 n l t ht, taR2.2.1 n l u hu, List.map_cons, List.map_nil, onePV]

/-- Which of two a decided bool picks. -/
theorem pkR (x y : PV) (objs : List Obj) (K : KT) : (pickR (.bool true) x y objs K = K x objs 0) ∧ (pickR (.bool false) x y objs K = K y objs 0) := ⟨rfl, rfl⟩

/-! ### All rules, in bundles: ahead of what lies inside, and behind -/

theorem preZ :
    type_of% @wpR ∧
    type_of% @knR ∧
    type_of% @kiR ∧
    type_of% @lrR3 ∧
    type_of% @exR2 ∧
    type_of% @guR3 ∧
    type_of% @putR3 ∧
    type_of% @hoR ∧
    type_of% @ifR ∧
    type_of% @opsR2 ∧
    type_of% @taR3 ∧
    type_of% @builtinR' ∧
    type_of% @biI ∧
    type_of% @exmap ∧
    type_of% @exi ∧
    type_of% @exi2 ∧
    type_of% @srcK ∧
    type_of% @skR ∧
    type_of% @atR ∧
    type_of% @exS ∧
    type_of% @exS2 :=
  ⟨@wpR, @knR, @kiR, @lrR3, @exR2, @guR3, @putR3, @hoR, @ifR, @opsR2, @taR3, @builtinR', @biI, @exmap, @exi, @exi2, @srcK, @skR, @atR, @exS, @exS2⟩

theorem postZ :
    type_of% @knR ∧
    type_of% @kiR ∧
    type_of% @lkR ∧
    type_of% @taR2 ∧
    type_of% @startA ∧
    type_of% @guR3 ∧
    type_of% @ifR ∧
    type_of% @stR2 ∧
    type_of% @retR ∧
    type_of% @retMR ∧
    type_of% @frR ∧
    type_of% @fzR ∧
    type_of% @tmR ∧
    type_of% @normR ∧
    type_of% @keepR ∧
    type_of% @caR2 ∧
    type_of% @taR3 ∧
    type_of% @builtinR' ∧
    type_of% @pkR ∧
    type_of% @biR ∧
    type_of% @biI ∧
    type_of% @inRR ∧
    type_of% @obR ∧
    type_of% @agR ∧
    type_of% @subR ∧
    type_of% @isR ∧
    type_of% @alR ∧
    type_of% @genR ∧
    type_of% @ldR ∧
    type_of% @srcK ∧
    type_of% @skR ∧
    type_of% @ntR ∧
    type_of% @atR ∧
    type_of% @stoR ∧
    type_of% @puR ∧
    type_of% @mapApp ∧
    type_of% @rowA1 :=
  ⟨@knR, @kiR, @lkR, @taR2, @startA, @guR3, @ifR, @stR2, @retR, @retMR, @frR, @fzR, @tmR, @normR, @keepR, @caR2, @taR3, @builtinR', @pkR, @biR, @biI, @inRR, @obR, @agR, @subR, @isR, @alR, @genR, @ldR, @srcK, @skR, @ntR, @atR, @stoR, @puR, @mapApp, @rowA1⟩

theorem coreZ :
    type_of% @decide_true ∧
    type_of% @decide_false ∧
    type_of% @not_true_eq_false ∧
    type_of% @not_false_eq_true ∧
    type_of% @false_and ∧
    type_of% @and_false ∧
    type_of% @cond_true.{1} ∧
    type_of% @cond_false.{1} ∧
    type_of% @List.take_zero.{0} ∧
    type_of% @ne_eq.{1} ∧
    type_of% @true_and ∧
    type_of% @PV.bool.injEq ∧
    type_of% @Int.toNat_natCast ∧
    type_of% @Int.toNat_zero ∧
    type_of% @Bool.not_false ∧
    type_of% @Bool.not_true ∧
    type_of% @Bool.and_self ∧
    type_of% @Bool.false_eq_true ∧
    type_of% @Bool.true_eq_false ∧
    type_of% @forall_const.{1} ∧
    type_of% @false_implies ∧
    type_of% @true_implies ∧
    type_of% @and_true ∧
    type_of% @implies_true.{1} ∧
    type_of% @implies_true.{0} ∧
    type_of% @forall_const.{0} ∧
    type_of% @Nat.zero_add ∧
    type_of% @List.length_map.{0,0} ∧
    type_of% @List.length_cons.{0} ∧
    type_of% @List.length_nil.{0} ∧
    type_of% @List.nil_append.{0} ∧
    type_of% @List.map_cons.{0,0} ∧
    type_of% @List.map_nil.{0,0} ∧
    type_of% @Bool.true_or ∧
    type_of% @List.getElem?_cons_zero.{0} ∧
    type_of% @List.getElem?_cons_succ.{0} ∧
    type_of% @Option.map_some.{0,0} ∧
    type_of% @or_true ∧
    type_of% @List.getElem?_map.{0,0} ∧
    type_of% @List.length_replicate.{0} ∧
    type_of% @List.all_cons.{0} ∧
    type_of% @List.all_nil.{0} ∧
    type_of% @Bool.and_true ∧
    type_of% @Bool.true_and ∧
    type_of% @Bool.false_or ∧
    type_of% @Bool.or_false ∧
    type_of% @Nat.le_refl ∧
    type_of% @Nat.lt_add_one ∧
    type_of% @List.length_append.{0} :=
  ⟨@decide_true, @decide_false, @not_true_eq_false, @not_false_eq_true, @false_and, @and_false, @cond_true.{1}, @cond_false.{1}, @List.take_zero.{0}, @ne_eq.{1}, @true_and, @PV.bool.injEq, @Int.toNat_natCast, @Int.toNat_zero, @Bool.not_false, @Bool.not_true, @Bool.and_self, @Bool.false_eq_true, @Bool.true_eq_false, @forall_const.{1}, @false_implies, @true_implies, @and_true, @implies_true.{1}, @implies_true.{0}, @forall_const.{0}, @Nat.zero_add, @List.length_map.{0,0}, @List.length_cons.{0}, @List.length_nil.{0}, @List.nil_append.{0}, @List.map_cons.{0,0}, @List.map_nil.{0,0}, @Bool.true_or, @List.getElem?_cons_zero.{0}, @List.getElem?_cons_succ.{0}, @Option.map_some.{0,0}, @or_true, @List.getElem?_map.{0,0}, @List.length_replicate.{0}, @List.all_cons.{0}, @List.all_nil.{0}, @Bool.and_true, @Bool.true_and, @Bool.false_or, @Bool.or_false, @Nat.le_refl, @Nat.lt_add_one, @List.length_append.{0}⟩

end Lp

/-! LpEq -/

namespace Lp
open Go

variable {P : Program}

/-- A field of such a type, and cells that fit it. -/
def fitT : Option TypeDesc → PV → PV → Bool
  | some (.int k), .int k1 _, .int k2 _ => decide (k1 = k2)
  | some .bool, .bool _, .bool _ => true
  | some .string, .str _, .str _ => true
  | _, _, _ => false

def fitF (P : Program) : Nat → List Field → List PV → List PV → Bool
  | _, [], [], [] => true
  | k, f :: fs, p :: aa, q :: bs => (f.name != "_") && f.offset == k && fitT (P.underlying f.type) p q && fitF P (k + 1) fs aa bs
  | _, _, _, _ => false

theorem part_run {w : World} {t : TypeId} {xs : Array Value} {o : Nat} {v : Value} {d : TypeDesc} (hu : P.underlying t = some d) (hd : (∃ k, d = .int k) ∨ d = .bool ∨ d = .string) (hv : xs[o]? = some v) : (part t xs o).run P w = .ok v w := by
  rcases hd with ⟨k, rfl⟩ | rfl | rfl
  all_goals simp [part, isAgg, run_underlying hu, hv]

theorem eq_run {w : World} {d : Nat} {t : TypeId} {p q : PV} {v u : Value} {ok : Nat → Prop} (hf : fitT (P.underlying t) p q = true) (hv : Rep w ok p v) (hu : Rep w ok q u) :
    ∃ b, eqS p q = some b ∧ (Op.equalIn (d + 1) t v u).run P w = .ok b w ∧ ∃ e, P.underlying t = some e ∧ ((∃ k, e = .int k) ∨ e = .bool ∨ e = .string) := by
  unfold fitT at hf
  split at hf
  · rename_i k k1 a k2 b hk
    have : k1 = k2 := by simpa using hf
    subst this
    cases hv; cases hu
    exact ⟨decide (a = b), by simp [eqS], by rw [run_equalIn_int w d t k1 k a b hk]; rfl, _, hk, .inl ⟨_, rfl⟩⟩
  · rename_i a b hk
    cases hv; cases hu
    exact ⟨a == b, rfl, run_equalIn_bool' w d t a b hk, _, hk, .inr (.inl rfl)⟩
  · rename_i a b hk
    cases hv; cases hu
    refine ⟨decide (a = b), rfl, ?_, _, hk, .inr (.inr rfl)⟩
    rw [run_equalIn_string w d t _ _ hk]
    congr 1
    simp only [ByteArray.toList_eq]
    by_cases h : a = b
    · simp [h]
    · simp [h]
  · cases hf

theorem eqF_run {w : World} {d : Nat} {ok : Nat → Prop} {xs ys : Array Value} : ∀ (fs : List Field) (k : Nat) (aa bs : List PV) (r : Bool), fitF P k fs aa bs = true → eqL aa bs = some r →
    (∀ i p, aa[i]? = some p → ∃ v, xs[k + i]? = some v ∧ Rep w ok p v) → (∀ i p, bs[i]? = some p → ∃ v, ys[k + i]? = some v ∧ Rep w ok p v) →
    (Op.eqFields (d + 1) xs ys fs).run P w = .ok r w
  | [], k, aa, bs, r, hf, he, _, _ => by
    cases aa <;> cases bs <;> simp [fitF] at hf
    simp only [eqL, Option.some.injEq] at he
    subst he
    rfl
  | f :: fs, k, aa, bs, r, hf, he, ha, hb => by
    cases aa with
    | nil => cases bs <;> simp [fitF] at hf
    | cons p aa =>
      cases bs with
      | nil => simp [fitF] at hf
      | cons q bs =>
        simp only [fitF, Bool.and_eq_true, beq_iff_eq, bne_iff_ne] at hf
        obtain ⟨⟨⟨hn, ho⟩, ht⟩, hr⟩ := hf
        obtain ⟨v, hv, rv⟩ := ha 0 p rfl
        obtain ⟨u, hu, ru⟩ := hb 0 q rfl
        obtain ⟨b, hb1, hb2, e, he1, he2⟩ := eq_run (d := d) ht rv ru
        simp only [eqL, hb1] at he
        cases hq : eqL aa bs with
        | none => rw [hq] at he; simp at he
        | some r' =>
          rw [hq] at he
          simp only [Option.some.injEq] at he
          subst he
          have ih := eqF_run (w := w) (d := d) (ok := ok) (xs := xs) (ys := ys) fs (k + 1) aa bs r' hr hq (fun i p h => by have := ha (i + 1) p (by simpa using h); rwa [show k + (i + 1) = k + 1 + i by omega] at this) (fun i p h => by have := hb (i + 1) p (by simpa using h); rwa [show k + (i + 1) = k + 1 + i by omega] at this)
          have p1 := part_run (w := w) (xs := xs) (o := f.offset) he1 he2 (by rw [ho]; simpa using hv)
          have p2 := part_run (w := w) (xs := ys) (o := f.offset) he1 he2 (by rw [ho]; simpa using hu)
          simp only [Op.eqFields, ne_eq, hn, not_false_eq_true, if_true, Sem.run_bind, p1, Result.andThen_ok, p2, hb2]
          cases b
          · simp
          · simpa using ih

theorem eqOk_of {t : TypeId} {aa bs : List PV} (hg : P.eqGuardType P.depth t = false) (ht : P.underlying t = some (.struct (P.fieldsOf t))) (hp : P.stoodInHeld t = false) (hf : fitF P 0 (P.fieldsOf t).toList aa bs = true) : EqOk P t aa bs := by
  refine ⟨hg, fun w ok vs us r hr h1 h2 => ?_⟩
  have e : Op.equal t (.agg ⟨vs⟩) (.agg ⟨us⟩) = Op.equalIn (9999 + 1) t (.agg ⟨vs⟩) (.agg ⟨us⟩) := rfl
  rw [e, run_equalIn_struct w 9999 t _ _ ht hp]
  refine eqF_run (d := 9998) (ok := ok) _ 0 aa bs r hf hr ?_ ?_
  · intro i p hi
    have hlt := (List.getElem?_eq_some_iff.1 hi).1
    have hv : vs[i]? = some (vs[i]'(by rw [← h1.1]; exact hlt)) := List.getElem?_eq_getElem _
    exact ⟨_, by simpa using hv, h1.2 i p _ hi hv⟩
  · intro i p hi
    have hlt := (List.getElem?_eq_some_iff.1 hi).1
    have hv : us[i]? = some (us[i]'(by rw [← h2.1]; exact hlt)) := List.getElem?_eq_getElem _
    exact ⟨_, by simpa using hv, h2.2 i p _ hi hv⟩

end Lp

/-! LpU2 -/

namespace Lp
open Go Go.Proofs

def encT (l : List (List UInt8)) : PV := .sl 1 (l.map .str) none
def encL (l : List Vl) : PV := .sl 1 (l.map encV) none
def encI (l : List Int) : PV := .sl 1 (l.map (.int .i64)) none
def encG (l : List (List Int)) : PV := .sl 1 (l.map encI) none

theorem hV : ∀ l, encV l = .sl 6 (l.map encN) none := fun _ => rfl
theorem hT : ∀ l, encT l = .sl 1 (l.map .str) none := fun _ => rfl
theorem hL : ∀ l, encL l = .sl 1 (l.map encV) none := fun _ => rfl
theorem hI : ∀ l, encI l = .sl 1 (l.map (.int .i64)) none := fun _ => rfl
theorem hG : ∀ l, encG l = .sl 1 (l.map encI) none := fun _ => rfl

theorem encN_inj : ∀ a b, encN a = encN b → a = b := by
  intro a b h
  cases a; cases b
  simp only [encN, PV.agg.injEq, List.cons.injEq, PV.int.injEq, PV.str.injEq, PV.bool.injEq, true_and, and_true] at h
  obtain ⟨rfl, rfl, rfl, rfl, rfl, rfl⟩ := h
  rfl
theorem encV_inj : ∀ a b, encV a = encV b → a = b := row_inj hV encN_inj
theorem encT_inj : ∀ a b, encT a = encT b → a = b := row_inj hT fun _ _ h => by injection h
theorem encI_inj : ∀ a b, encI a = encI b → a = b := row_inj hI fun _ _ h => by injection h
theorem encL_inj : ∀ a b, encL a = encL b → a = b := row_inj hL encV_inj
theorem encG_inj : ∀ a b, encG a = encG b → a = b := row_inj hG encI_inj

theorem nodeR (objs : List Obj) (K : KT) :
    (∀ n, fieldAddrR D t_api_Node (.addr (encN n)) 0 objs K = K (.addr (.int .i64 n.kind)) objs 0) ∧
    (∀ n, fieldAddrR D t_api_Node (.addr (encN n)) 1 objs K = K (.addr (.int .i64 n.many)) objs 0) ∧
    (∀ n, fieldAddrR D t_api_Node (.addr (encN n)) 2 objs K = K (.addr (.str n.name)) objs 0) ∧
    (∀ n, fieldAddrR D t_api_Node (.addr (encN n)) 3 objs K = K (.addr (.str n.s)) objs 0) ∧
    (∀ n, fieldAddrR D t_api_Node (.addr (encN n)) 4 objs K = K (.addr (.bool n.neg)) objs 0) ∧
    (∀ n, fieldAddrR D t_api_Node (.addr (encN n)) 5 objs K = K (.addr (.int .i64 n.e)) objs 0) := by
  refine ⟨fun n => ?_, fun n => ?_, fun n => ?_, fun n => ?_, fun n => ?_, fun n => ?_⟩
  all_goals
    simp only [encN, fieldAddrR, fieldOf, D_all, ↓exi, agR, subR, tmR, isR, alR, ne_eq, reduceCtorEq, not_false_eq_true, true_and, Bool.not_false, Bool.and_self, Nat.reduceAdd, Nat.reduceLeDiff, forall_const]

theorem nodeC :
    (∀ n, (encN n).cells = [.int .i64 n.kind, .int .i64 n.many, .str n.name, .str n.s, .bool n.neg, .int .i64 n.e]) ∧
    (∀ n, (encN n).isAgg = true) ∧ (∀ n, (encN n).pure = true) ∧ (∀ d m O n, frz d m O (encN n) = encN n) ∧ (∀ d m O n, frzT d m O (encN n) = encN n) :=
  ⟨fun _ => rfl, fun _ => rfl, fun _ => rfl, fun _ _ _ _ => rfl, fun _ _ _ _ => rfl⟩

theorem eqOkN (a b : Nd) : EqOk Tryd.prog t_api_Node (encN a).cells (encN b).cells :=
  eqOk_of (by kernel_rfl) (by kernel_rfl) (by kernel_rfl) (by
    have h : (Tryd.prog.fieldsOf t_api_Node).toList.map (fun f => (f.name != "_", f.offset, Tryd.prog.underlying f.type)) = [(true, 0, some (.int .i64)), (true, 1, some (.int .i64)), (true, 2, some .string), (true, 3, some .string), (true, 4, some .bool), (true, 5, some (.int .i64))] := by kernel_rfl
    generalize (Tryd.prog.fieldsOf t_api_Node).toList = fs at h
    obtain _ | ⟨f0, _ | ⟨f1, _ | ⟨f2, _ | ⟨f3, _ | ⟨f4, _ | ⟨f5, _ | ⟨f6, fr⟩⟩⟩⟩⟩⟩⟩ := fs
    all_goals simp only [List.map_cons, List.map_nil, List.cons.injEq, Prod.mk.injEq, and_true, reduceCtorEq, and_false] at h
    obtain ⟨⟨a0, b0, c0⟩, ⟨a1, b1, c1⟩, ⟨a2, b2, c2⟩, ⟨a3, b3, c3⟩, ⟨a4, b4, c4⟩, ⟨a5, b5, c5⟩⟩ := h
    simp only [fitF, fitT, encN, PV.cells, a0, b0, c0, a1, b1, c1, a2, b2, c2, a3, b3, c3, a4, b4, c4, a5, b5, c5, Bool.and_true, BEq.rfl, decide_true, Nat.zero_add, Nat.reduceAdd])

theorem eqLN (a b : Nd) : eqL (encN a).cells (encN b).cells = some (decide (a = b)) := by
  cases a; cases b
  simp only [encN, PV.cells, eqL, eqS, if_true, Bool.and_true, Nd.mk.injEq, Option.some.injEq]
  rw [Bool.eq_iff_iff]
  simp

theorem nodeEq (ti : TInfo) (K : PV → Prop) :
    (∀ a b, binR Tryd.prog ti t_api_Node .eql (encN a) (encN b) K = K (.bool (decide (a = b)))) ∧
    (∀ a b, binR Tryd.prog ti t_api_Node .neq (encN a) (encN b) K = K (.bool (!decide (a = b)))) ∧
    (∀ a k m x y g e, binR Tryd.prog ti t_api_Node .eql (encN a) (.agg [.int .i64 k, .int .i64 m, .str x, .str y, .bool g, .int .i64 e]) K = K (.bool (decide (a = ⟨k, m, x, y, g, e⟩)))) := by
  have h : ∀ a b, binR Tryd.prog ti t_api_Node .eql (encN a) (encN b) K = K (.bool (decide (a = b))) := fun a b => by
    show (EqOk Tryd.prog t_api_Node (encN a).cells (encN b).cells ∧ ∃ r, eqL (encN a).cells (encN b).cells = some r ∧ K (.bool r)) = _
    rw [eqLN]
    simp [eqOkN]
  refine ⟨h, fun a b => ?_, fun a k m x y g e => h a ⟨k, m, x, y, g, e⟩⟩
  show (EqOk Tryd.prog t_api_Node (encN a).cells (encN b).cells ∧ ∃ r, eqL (encN a).cells (encN b).cells = some r ∧ K (.bool (!r))) = _
  rw [eqLN]
  simp [eqOkN]

theorem nodeP (n : Nd) :
    (∀ x, (encN n).putCells 0 [.int .i64 x] = encN { n with kind := x }) ∧ (∀ x, (encN n).putCells 1 [.int .i64 x] = encN { n with many := x }) ∧
    (∀ x, (encN n).putCells 2 [.str x] = encN { n with name := x }) ∧ (∀ x, (encN n).putCells 3 [.str x] = encN { n with s := x }) ∧
    (∀ x, (encN n).putCells 4 [.bool x] = encN { n with neg := x }) ∧ (∀ x, (encN n).putCells 5 [.int .i64 x] = encN { n with e := x }) :=
  ⟨fun _ => rfl, fun _ => rfl, fun _ => rfl, fun _ => rfl, fun _ => rfl, fun _ => rfl⟩

/-- Nodes are folded again. -/
theorem nodeF (k m : Int) (x y : List UInt8) (g : Bool) (e : Int) : PV.agg [.int .i64 k, .int .i64 m, .str x, .str y, .bool g, .int .i64 e] = encN ⟨k, m, x, y, g, e⟩ := rfl

theorem nodeB (objs : List Obj) (K : KT) :
    (∀ k, buildR' D t_api_Node [(0, .int .i64 k)] objs K = K (encN ⟨k, 0, [], [], false, 0⟩) objs 0) ∧
    (∀ k m, buildR' D t_api_Node [(0, .int .i64 k), (1, .int .i64 m)] objs K = K (encN ⟨k, m, [], [], false, 0⟩) objs 0) ∧
    (∀ k s, buildR' D t_api_Node [(0, .int .i64 k), (3, .str s)] objs K = K (encN ⟨k, 0, [], s, false, 0⟩) objs 0) ∧
    (∀ k s g e, buildR' D t_api_Node [(0, .int .i64 k), (3, .str s), (4, .bool g), (5, .int .i64 e)] objs K = K (encN ⟨k, 0, [], s, g, e⟩) objs 0) := by
  have z : zeroElem (D t_api_Node) = encN ⟨0, 0, [], [], false, 0⟩ := by kernel_rfl
  have a : (D t_api_Node).agg = true := by kernel_rfl
  simp only [D_all] at z a
  refine ⟨fun k => ?_, fun k m => ?_, fun k s => ?_, fun k s g e => ?_⟩
  all_goals
    simp [buildR', buildR, a, z, D_all, fillR, encN, PV.isAgg, partOk, PV.cells, PV.storable, PV.solid, PV.pure]

/-- Literals, folded. -/
theorem foldS :
    (∀ n0, PV.sl 6 [encN n0] none = encV [n0]) ∧
    (∀ n0 n1, PV.sl 6 [encN n0, encN n1] none = encV [n0, n1]) ∧
    (∀ n0 n1 n2, PV.sl 6 [encN n0, encN n1, encN n2] none = encV [n0, n1, n2]) ∧
    (∀ s0, PV.sl 1 [PV.str s0] none = encT [s0]) ∧
    (∀ s0 s1, PV.sl 1 [PV.str s0, PV.str s1] none = encT [s0, s1]) ∧
    (∀ s0 s1 s2, PV.sl 1 [PV.str s0, PV.str s1, PV.str s2] none = encT [s0, s1, s2]) ∧
    (∀ i0, PV.sl 1 [PV.int .i64 i0] none = encI [i0]) ∧
    (∀ i0 i1, PV.sl 1 [PV.int .i64 i0, PV.int .i64 i1] none = encI [i0, i1]) ∧
    (∀ i0 i1 i2, PV.sl 1 [PV.int .i64 i0, PV.int .i64 i1, PV.int .i64 i2] none = encI [i0, i1, i2]) ∧
    (∀ v0, PV.sl 1 [encV v0] none = encL [v0]) ∧
    (∀ v0 v1, PV.sl 1 [encV v0, encV v1] none = encL [v0, v1]) ∧
    (∀ v0 v1 v2, PV.sl 1 [encV v0, encV v1, encV v2] none = encL [v0, v1, v2]) ∧
    (∀ g0, PV.sl 1 [encI g0] none = encG [g0]) ∧
    (∀ g0 g1, PV.sl 1 [encI g0, encI g1] none = encG [g0, g1]) ∧
    (∀ g0 g1 g2, PV.sl 1 [encI g0, encI g1, encI g2] none = encG [g0, g1, g2]) :=
  ⟨fun _ => rfl, fun _ _ => rfl, fun _ _ _ => rfl, fun _ => rfl, fun _ _ => rfl, fun _ _ _ => rfl, fun _ => rfl, fun _ _ => rfl, fun _ _ _ => rfl, fun _ => rfl, fun _ _ => rfl, fun _ _ _ => rfl, fun _ => rfl, fun _ _ => rfl, fun _ _ _ => rfl⟩

theorem inN : Inert encN := by intro d n o x; cases d <;> rfl
theorem inV : Inert encV := by intro d n o x; cases d <;> rfl
theorem inS : Inert PV.str := by intro d n o x; cases d <;> rfl
theorem inI : Inert (PV.int .i64) := by intro d n o x; cases d <;> rfl
theorem inB : Inert PV.bool := by intro d n o x; cases d <;> rfl
theorem inG : Inert encI := by intro d n o x; cases d <;> rfl

/-! ### All rules on values, in bundles -/

theorem preU :
    type_of% (rowS hV) ∧
    type_of% (rowS hT) ∧
    type_of% (rowS hL) ∧
    type_of% (rowS hI) ∧
    type_of% (rowS hG) ∧
    type_of% (ofE_inj encN_inj) ∧
    type_of% (ofE_inj encV_inj) ∧
    type_of% (ofE_inj encT_inj) ∧
    type_of% (ofE_inj encL_inj) ∧
    type_of% (ofE_inj encI_inj) ∧
    type_of% (ofE_inj encG_inj) :=
  ⟨rowS hV, rowS hT, rowS hL, rowS hI, rowS hG, ofE_inj encN_inj, ofE_inj encV_inj, ofE_inj encT_inj, ofE_inj encL_inj, ofE_inj encI_inj, ofE_inj encG_inj⟩

theorem postU :
    type_of% (nodeR) ∧
    type_of% (nodeC) ∧
    type_of% (nodeEq) ∧
    type_of% (nodeP) ∧
    type_of% (nodeF) ∧
    type_of% (nodeB) ∧
    type_of% (foldS) ∧
    type_of% (rowR hV) ∧
    type_of% (rowR hT) ∧
    type_of% (rowR hL) ∧
    type_of% (rowR hI) ∧
    type_of% (rowR hG) ∧
    type_of% (rowS hV) ∧
    type_of% (rowS hT) ∧
    type_of% (rowS hL) ∧
    type_of% (rowS hI) ∧
    type_of% (rowS hG) ∧
    type_of% (rowC hV) ∧
    type_of% (rowC hT) ∧
    type_of% (rowC hL) ∧
    type_of% (rowC hI) ∧
    type_of% (rowC hG) ∧
    type_of% (ofE_inj encN_inj) ∧
    type_of% (ofE_inj encV_inj) ∧
    type_of% (ofE_inj encT_inj) ∧
    type_of% (ofE_inj encL_inj) ∧
    type_of% (ofE_inj encI_inj) ∧
    type_of% (ofE_inj encG_inj) ∧
    type_of% (frzRow hV inN) ∧
    type_of% (frzRow hT inS) ∧
    type_of% (frzRow hL inV) ∧
    type_of% (frzRow hI inI) ∧
    type_of% (frzRow hG inG) ∧
    type_of% (rowA (enc := encN) (sz := 6) (fun _ => rfl) (fun _ => rfl)) ∧
    type_of% (rowA (enc := encV) (sz := 1) (fun _ => rfl) (fun _ => rfl)) ∧
    type_of% (rowA (enc := PV.str) (sz := 1) (fun _ => rfl) (fun _ => rfl)) ∧
    type_of% (rowA (enc := (PV.int .i64)) (sz := 1) (fun _ => rfl) (fun _ => rfl)) ∧
    type_of% (rowA (enc := encI) (sz := 1) (fun _ => rfl) (fun _ => rfl)) ∧
    type_of% (rowA (enc := PV.bool) (sz := 1) (fun _ => rfl) (fun _ => rfl)) ∧
    type_of% (fun (l : Vl) (k : Nat) => neO (encV l) rfl k) ∧
    type_of% (fun (l : List (List UInt8)) (k : Nat) => neO (encT l) rfl k) ∧
    type_of% (fun (l : List Vl) (k : Nat) => neO (encL l) rfl k) ∧
    type_of% (fun (l : List Int) (k : Nat) => neO (encI l) rfl k) ∧
    type_of% (fun (l : List (List Int)) (k : Nat) => neO (encG l) rfl k) ∧
    type_of% (fun (z : Nat) (xs : List PV) (q : Option Bool) (k : Nat) => neO (.sl z xs q) rfl k) :=
  ⟨nodeR, nodeC, nodeEq, nodeP, nodeF, nodeB, foldS, rowR hV, rowR hT, rowR hL, rowR hI, rowR hG, rowS hV, rowS hT, rowS hL, rowS hI, rowS hG, rowC hV, rowC hT, rowC hL, rowC hI, rowC hG, ofE_inj encN_inj, ofE_inj encV_inj, ofE_inj encT_inj, ofE_inj encL_inj, ofE_inj encI_inj, ofE_inj encG_inj, frzRow hV inN, frzRow hT inS, frzRow hL inV, frzRow hI inI, frzRow hG inG, rowA (enc := encN) (sz := 6) (fun _ => rfl) (fun _ => rfl), rowA (enc := encV) (sz := 1) (fun _ => rfl) (fun _ => rfl), rowA (enc := PV.str) (sz := 1) (fun _ => rfl) (fun _ => rfl), rowA (enc := (PV.int .i64)) (sz := 1) (fun _ => rfl) (fun _ => rfl), rowA (enc := encI) (sz := 1) (fun _ => rfl) (fun _ => rfl), rowA (enc := PV.bool) (sz := 1) (fun _ => rfl) (fun _ => rfl), fun (l : Vl) (k : Nat) => neO (encV l) rfl k, fun (l : List (List UInt8)) (k : Nat) => neO (encT l) rfl k, fun (l : List Vl) (k : Nat) => neO (encL l) rfl k, fun (l : List Int) (k : Nat) => neO (encI l) rfl k, fun (l : List (List Int)) (k : Nat) => neO (encG l) rfl k, fun (z : Nat) (xs : List PV) (q : Option Bool) (k : Nat) => neO (.sl z xs q) rfl k⟩

end Lp

/-! LpW1 -/

namespace Lp
open Go Go.Proofs

set_option maxHeartbeats 1000000
set_option linter.unusedSimpArgs false

theorem behind_spec (v : Vl) (i c : Nat) (hv : v.length ≤ 4611686018427387904) (h : skip (v.drop i) 1 = some c) : FnSpec Tryd.prog f_val_behind [encV v, .int .i64 i] [] (.int .i64 (i + c : Nat)) [] := by
  refine k_val_behind.pure (T := tabL Tryd.prog []) 0 hD (kOk_tabL tabOk_nil) hmix (by decide) ?_
  simp only [c_val_behind, ↓wpR, knR, ↓lrR, ↓exR, ↓guR, stR, ↓opsR, retR, outL, onePV, frR, Nat.reduceAdd, Nat.reduceSub, tmR, D_all, biR, biI, inRR]
  refine wpc_loop (fun m S => ∃ (j k c' : Nat), m = c' ∧ skip (v.drop j) k = some c' ∧ j + c' = i + c ∧ S = ⟨mkT 19 [(0, encV v), (1, .int .i64 j), (5, .int .i64 k)], []⟩) c ⟨i, 1, c, rfl, h, rfl, ?_⟩ ?_
  · simp only [fgR, encV, tmR]; rfl
  rintro m S ⟨j, k, c', rfl, hs, hj, rfl⟩
  simp only [↓wpR, knR, ↓lrR, ↓exR, ↓guR, stR, ↓opsR, retR, outL, onePV, frR, Nat.reduceAdd, Nat.reduceSub, tmR, fgR, D_all, encV, encN, biR, biI, inRR, indexAddrR, loadR, fieldAddrR, fieldOf, ↓exmap, ↓exi, agR, subR, isR, alR, Bool.not_false, Bool.and_self, Nat.reduceLeDiff, forall_const, ne_eq, reduceCtorEq, not_false_eq_true, true_and, PV.bool.injEq, Int.toNat_natCast, Nat.zero_add, decide_eq_true_eq, List.length_cons, List.length_nil]
  refine ⟨fun hk => ?_, fun hk => ?_⟩
  · obtain ⟨k, rfl⟩ : ∃ k', k = k' + 1 := ⟨k - 1, by omega⟩
    have hjl : j < v.length := by
      rcases Nat.lt_or_ge j v.length with h' | h'
      · exact h'
      · rw [List.drop_eq_nil_of_le h'] at hs; simp [skip] at hs
    rw [List.drop_eq_getElem_cons hjl] at hs
    obtain ⟨hm, c'', rfl, hs'⟩ := skip_step hs
    have hle := skip_le _ _ _ hs'
    simp only [List.length_drop] at hle
    have hk2 : ((k + 1 : Nat) : Int) + (v[j].many - 1) = ((k + v[j].many.toNat : Nat) : Int) := by omega
    exact ⟨by omega, v[j], List.getElem?_eq_getElem hjl, by omega, by omega, by omega, c'', by omega, j + 1, k + v[j].many.toNat, c'', rfl, hs', by omega, by rw [hk2]; rfl⟩
  · rw [if_pos trivial]
    have hk0 : k = 0 := by have := of_decide_eq_false hk; omega
    subst hk0
    have : m = 0 := by cases hd : v.drop j <;> rw [hd] at hs <;> simp [skip] at hs <;> exact hs.symm
    subst this
    congr 1; omega

def objV (v : Vl) : Obj := ⟨t_api_Node, 6, v.map encN, true, 0⟩

theorem noRefs_objV (v : Vl) : NoRefs [objV v] := by
  intro o ho x hx p hp
  simp only [List.mem_singleton] at ho
  subst ho
  simp only [objV, List.mem_map] at hx
  obtain ⟨n, _, rfl⟩ := hx
  simp only [encN, PV.cells, List.mem_cons, List.not_mem_nil, or_false] at hp
  rcases hp with rfl | rfl | rfl | rfl | rfl | rfl <;> rfl

theorem encN_cells (n : Nd) : (encN n).cells.length = 6 ∧ (encN n).cells.all PV.storable = true := ⟨rfl, rfl⟩

theorem map_frzN (d n : Nat) (objs : List Obj) (v : Vl) : (v.map encN).map (PV.mapCells (frz d n objs)) = v.map encN := by
  rw [List.map_map]
  exact List.map_congr_left fun x _ => rfl

theorem clone_nil : FnSpec Tryd.prog f_slices_Clone_api_Val_api_Node_ [.sl 6 [] (some true)] [] (.osl 0 0) [objV []] := by
  refine k_slices_Clone_api_Val_api_Node_.made (T := tabL Tryd.prog []) 0 hD (kOk_tabL tabOk_nil) hmix ?_
  simp only [c_slices_Clone_api_Val_api_Node_, ↓wpR, knR, ↓lrR, ↓exR, ↓guR, stR, ↓opsR, retMR, frR, Nat.reduceAdd, Nat.reduceSub, tmR, fgR, D_all, biR, biI, inRR, builtinR', forall_const, reduceCtorEq, false_imp_iff, and_true, TK.slice.injEq, exists_eq', true_and]
  exact ⟨_, 0, 0, _, Weak.adopt 2 t_api_Node 6 rfl, rfl, rfl, rfl, rfl, rfl, noRefs_objV []⟩

theorem clone_some (v : Vl) (hv : v.length ≤ 1099511627776) : FnSpec Tryd.prog f_slices_Clone_api_Val_api_Node_ [.sl 6 (v.map encN) (some false)] [] (.osl 0 0) [objV v] := by
  refine k_slices_Clone_api_Val_api_Node_.made (T := tabL Tryd.prog []) 0 hD (kOk_tabL tabOk_nil) hmix ?_
  simp only [c_slices_Clone_api_Val_api_Node_, ↓wpR, knR, ↓lrR, ↓exR, ↓guR, stR, ↓opsR, retMR, frR, Nat.reduceAdd, Nat.reduceSub, tmR, fgR, D_all, biR, biI, inRR, builtinR', forall_const, reduceCtorEq, false_imp_iff, and_true, TK.slice.injEq, exists_eq', true_and]
  simp only [buildSliceR, appendR, srcR, newObj, setAll, D_all, ne_eq, reduceCtorEq, not_false_eq_true, true_and, if_true, List.all_nil, Nat.zero_mul, Nat.zero_le, List.nil_append, List.length_nil, List.getElem?_cons_zero, Option.some.injEq]
  refine ⟨rfl, rfl, rfl, rfl, ?_, _, rfl, rfl, rfl, rfl, rfl, ?_, ?_, fun _ _ h => h.elim, _, 0, 2, _, Weak.refl _ _, rfl, rfl, rfl, rfl, ?_, noRefs_objV v⟩
  · intro y hy
    obtain ⟨n, _, rfl⟩ := List.mem_map.1 hy
    exact encN_cells n
  · simp; omega
  · simp; omega
  · simp only [frzO, objV, List.replicate_zero, List.nil_append, map_frzN]

theorem clone_spec (v : Vl) (hv : v.length ≤ 1099511627776) : FnSpec Tryd.prog f_slices_Clone_api_Val_api_Node_ [encV v] [] (.osl 0 0) [objV v] :=
  FnSpec.split (pre := []) (post := []) (fun h => by
    have : v = [] := by simpa using h
    subst this
    exact clone_nil) (clone_some v hv)

end Lp

/-! LpW2 -/

namespace Lp
open Go Go.Proofs

set_option maxHeartbeats 2000000
set_option linter.unusedSimpArgs false

def rowOf (p : Vl) : List PV := [.str (nameOf p), encV (clr p)]

def ctrBehind : Ctr := fun args objs K => ∃ (v : Vl) (i c : Nat), args = [encV v, .int .i64 i] ∧ v.length ≤ 4611686018427387904 ∧ skip (v.drop i) 1 = some c ∧ K (.int .i64 (i + c : Nat)) objs 0
def ctrClone : Ctr := fun args objs K => ∃ v : Vl, args = [encV v] ∧ v.length ≤ 1099511627776 ∧ K (.osl objs.length 0) (objs ++ [objV v]) 2

theorem ctrBehind_ok : CtrOk Tryd.prog f_val_behind ctrBehind := by
  rintro args objs K ⟨v, i, c, rfl, hv, hs, hk⟩
  exact ⟨_, _, _, .pure _ rfl (behind_spec v i c hv hs), hk⟩

theorem ctrClone_ok : CtrOk Tryd.prog f_slices_Clone_api_Val_api_Node_ ctrClone := by
  rintro args objs K ⟨v, rfl, hv, hk⟩
  have h := CallR.made (objs := objs) _ _ rfl (noRefs_objV v) (clone_spec v hv)
  exact ⟨_, _, _, h, by simpa [PV.shift, PV.shiftS] using hk⟩

theorem each_spec (v : Vl) : FnSpec Tryd.prog f_val_each [encV v] [] (.fn f_val_each_1 [] [.addr (encV v)]) [] := by
  refine k_val_each.pure (T := tabL Tryd.prog []) 1 hD (kOk_tabL tabOk_nil) hmix (by decide) ?_
  simp only [c_val_each, ↓wpR, knR, ↓lrR, ↓exR, ↓guR, stR, ↓opsR, retR, outL, onePV, Nat.reduceAdd, Nat.reduceSub, tmR, D_all, boxR, makeFuncR, newObj, encV, isR, alR, ne_eq, reduceCtorEq, not_false_eq_true, true_and, List.length_cons, List.length_nil, List.nil_append]
  exact ⟨rfl, rfl, rfl⟩

theorem each1_gives (v : Vl) (n : Nd) (r : Vl) (ps : List Vl) (hv : v = n :: r) (hl : v.length ≤ 1099511627776) (hm : 0 ≤ n.many) (hp : parts n.many.toNat r = some ps) :
    Gives Tryd.prog f_val_each_1 [.addr (encV v)] (ps.map rowOf) := by
  refine k_val_each_1.gives (fnT := tabF [(f_val_behind, ctrBehind), (f_slices_Clone_api_Val_api_Node_, ctrClone)]) hD (tabOk_cons ctrBehind_ok (tabOk_cons ctrClone_ok tabOk_nil)) hmix ?_
  intro I J objs y hI hIl hJl
  subst hv
  simp only [c_val_each_1, ↓wpR, kiR, ↓lrR, ↓exR, ↓guR, stR, ↓opsR, Nat.reduceAdd, Nat.reduceSub, tmR, D_all, biR, biI, inRR, indexAddrR, loadR, fieldAddrR, fieldOf, ↓exmap, ↓exi, agR, subR, isR, alR, encV, encN, List.map_cons, Int.reduceToNat, Int.toNat_zero, Int.reduceLE, Bool.not_false, Bool.and_self, Nat.reduceLeDiff, forall_const, ne_eq, reduceCtorEq, not_false_eq_true, true_and, PV.bool.injEq, Int.toNat_natCast, Nat.zero_add, List.length_cons, List.length_nil]
  refine wpc_loop (fun m S => ∃ (k i : Nat) (O : List Obj) (rest : List Vl), k + rest.length = ps.length ∧ m = rest.length ∧ parts rest.length ((n :: r).drop i) = some rest ∧ ps.drop k = rest ∧ I k O ∧
    S = ⟨mkT 34 [(0, .yld y), (1, .addr (encV (n :: r))), (3, .int .i64 i), (9, .int .i64 n.many), (10, .int .i64 k)], O⟩) ps.length ?_ ?_
  · have hpl := parts_len _ _ _ hp
    refine ⟨0, 1, objs, ps, by omega, rfl, by rw [hpl]; simpa using hp, by simp, hI, ?_⟩
    simp only [fgR, encV, tmR]; rfl
  have hpl := parts_len _ _ _ hp
  have hple : n.many.toNat ≤ 1099511627776 := by have := parts_le _ _ _ hp; simp at hl; omega
  generalize hv : n :: r = v at *
  rintro m S ⟨k, i, O, rest, hk, rfl, hps, hd, hIk, rfl⟩
  simp only [↓wpR, kiR, ↓lrR, ↓exR, ↓guR, stR, ↓opsR, Nat.reduceAdd, Nat.reduceSub, tmR, D_all, F_all, biR, biI, inRR, caR, taR, ctrBehind, ctrClone, Nat.reduceBEq, BEq.rfl, cond_true, cond_false, sliceR, boundR, indexAddrR, loadR, fieldAddrR, fieldOf, ↓exmap, ↓exi, agR, subR, isR, alR, encV, List.map_cons, Int.reduceToNat, Int.toNat_zero, Int.reduceLE, Bool.not_false, Bool.and_self, Nat.reduceLeDiff, forall_const, ne_eq, reduceCtorEq, not_false_eq_true, true_and, PV.bool.injEq, Int.toNat_natCast, Nat.zero_add, List.length_cons, List.length_nil]
  refine ⟨fun hkm => ?_, fun hkm => ?_⟩
  · have hkm' : (k : Int) < n.many := of_decide_eq_true hkm
    obtain ⟨q, hq⟩ : ∃ q, rest.length = q + 1 := ⟨rest.length - 1, by omega⟩
    rw [hq] at hps
    obtain ⟨c, qs, hsk, hr', hqs⟩ := parts_step hps
    have hc := skip_le _ _ _ hsk
    simp only [List.length_drop] at hc
    have hlv : v.length ≤ 1099511627776 := hl
    refine ⟨v, i, c, rfl, by omega, hsk, .inr trivial, by omega, by omega, by simp; omega, (v.drop i).take c, ?_, by simp; omega, objV ((v.drop i).take c), by simp, rfl, rfl, by simp [objV]; omega, rfl, objV ((v.drop i).take c), by simp, rfl, rfl, ?_⟩
    · rw [← List.map_take, ← List.map_drop, ← List.take_drop]
    · obtain ⟨hdn, tl, hpe⟩ : ∃ a b, (v.drop i).take c = a :: b := by
        cases hx : (v.drop i).take c with
        | nil => have := congrArg List.length hx; simp at this; omega
        | cons a b => exact ⟨a, b, rfl⟩
      rw [hpe] at hr' ⊢
      refine ⟨objV (hdn :: tl), encN hdn, by simp, rfl, rfl, rfl, by simp, rfl, by simp [encN, PV.cells], (fun h => by cases h), rfl, ?_⟩
      have hset : (O ++ [objV (hdn :: tl)]).set O.length { objV (hdn :: tl) with xs := (objV (hdn :: tl)).xs.set 0 ((encN hdn).putCells 2 (PV.str []).cells) } = O ++ [objV (clr (hdn :: tl))] := by
        rw [List.set_append_right _ _ (Nat.le_refl _), Nat.sub_self]
        rfl
      rw [hset]
      refine wpc_weak _ (Weak.freeze 1 O.length (hIl k O hIk).1 _) ?_
      have hgo : (O ++ [objV (clr (hdn :: tl))])[O.length]? = some (objV (clr (hdn :: tl))) := by simp
      have hfr : frz 1 O.length (O ++ [objV (clr (hdn :: tl))]) (.osl O.length 0) = encV (clr (hdn :: tl)) := by
        simp only [frz, Nat.lt_irrefl, if_false, frzI, hgo]
        simp only [objV, Nat.le_refl, decide_true, Bool.and_self, BEq.rfl, if_true, encV, List.map_map]
        congr 1
      have hro : (O ++ [objV (clr (hdn :: tl))]).take O.length = O := by simp
      have hpost : ∃ w, w = clr (hdn :: tl) := ⟨_, rfl⟩
      obtain ⟨pc, hpc⟩ := hpost
      rw [← hpc] at hfr hro hgo ⊢
      have hq1 : (frz 1 O.length (O ++ [objV pc]) (.optr O.length 0 0 0)).pure = true := frz_optr_pure (Nat.le_refl _)
      have hq2 : (frz 1 O.length (O ++ [objV pc]) (.optr O.length 0 0 2)).pure = true := frz_optr_pure (Nat.le_refl _)
      have hq3 : (encV pc).pure = true := rfl
      simp only [St.freeze, tmR, fzR, frR, hfr, hro, hq1, hq2, hq3, puR, unR, Bool.not_true, encN, frzO_id (hIl k O hIk).2, ↓wpR, kiR, ↓lrR, ↓exR, ↓guR, stR, ↓opsR, Nat.reduceAdd, Nat.reduceSub, D_all, biR, biI, inRR, caR, Yof, indexAddrR, loadR, fieldAddrR, fieldOf, ↓exmap, ↓exi, agR, subR, isR, alR, Int.reduceToNat, Int.toNat_zero, Int.reduceLE, Bool.not_false, Bool.and_self, Nat.reduceLeDiff, forall_const, ne_eq, reduceCtorEq, not_false_eq_true, true_and, PV.bool.injEq, Int.toNat_natCast, Nat.zero_add, List.length_cons, List.length_nil]
      have hvi : v[i]? = some hdn := by
        have := congrArg (fun l => l[0]?) hpe
        simp only [List.getElem?_cons_zero, List.getElem?_take, List.getElem?_drop, Nat.add_zero] at this
        rw [if_pos (by omega)] at this
        exact this
      have hpk : ps[k]? = some (hdn :: tl) := by
        have := congrArg (fun l => l[0]?) (hd.trans hr')
        simpa using this
      have hdq : ps.drop (k + 1) = qs := by
        have := congrArg List.tail (hd.trans hr')
        simpa [List.tail_drop] using this
      have hlq : qs.length = q := by rw [hr'] at hq; simpa using hq
      refine ⟨by omega, hdn, hvi, k, hIk, ?_, fun objs' hI' => ⟨fun h => h.elim, ⟨by omega, by omega⟩, qs.length, by omega, k + 1, i + c, objs', qs, by omega, rfl, ?_, hdq, hI', ?_⟩, fun objs' hJ' => ?_⟩
      · rw [List.getElem?_map, hpk, hpc]; rfl
      · rw [hlq]; rw [List.drop_drop] at hqs; exact hqs
      · simp only [fgR, encV, tmR]; rfl
      · exact ⟨⟨.inr rfl, .inr ⟨k, by rw [List.length_map]; omega, hJ'⟩⟩, fun h => h.elim⟩
  · rw [if_pos trivial]
    have hge : ¬ (k : Int) < n.many := of_decide_eq_false hkm
    refine ⟨.inl rfl, ?_⟩
    have : k = ps.length := by omega
    rw [List.length_map, ← this]
    exact .inl hIk
end Lp

/-! LpW3 -/

namespace Lp
open Go Go.Proofs

set_option maxHeartbeats 2000000
set_option linter.unusedSimpArgs false

def ctrEach : Ctr := fun args objs K => ∃ v : Vl, args = [encV v] ∧ K (.fn f_val_each_1 [] [.addr (encV v)]) objs 0

theorem ctrEach_ok : CtrOk Tryd.prog f_val_each ctrEach := by
  rintro args objs K ⟨v, rfl, hk⟩
  exact ⟨_, _, _, .pure _ rfl (each_spec v), hk⟩

/-- The boxed list of Parts, so many in it. -/
def partsObjs (done : List Vl) (O : List Obj) : Prop :=
  (done = [] ∧ O = [⟨t_L_api_Val, 1, [.sl 0 [] (some true)], true, 1⟩]) ∨
  (done ≠ [] ∧ ∃ ver, O = [⟨t_L_api_Val, 1, [.osl 1 ver], true, 1⟩, ⟨t_api_Val, 1, done.map fun p => encV (clr p), true, ver⟩])

theorem parts_spec0 (v : Vl) (n : Nd) (r : Vl) (ps : List Vl) (hv : v = n :: r) (hl : v.length ≤ 1099511627776) (hm : 0 ≤ n.many) (hp : parts n.many.toNat r = some ps) :
    FnSpec Tryd.prog f_val_Parts [encV v] [] (if ps = [] then .sl 0 [] (some true) else .sl 1 (ps.map fun p => encV (clr p)) none) [] := by
  refine k_val_Parts.pure (T := tabL Tryd.prog [(f_val_each, ctrEach)]) 2 hD (kOk_tabL (tabOk_cons ctrEach_ok tabOk_nil)) hmix (by decide) ?_
  simp only [c_val_Parts, ↓wpR, knR, ↓lrR, ↓exR, ↓guR, stR, ↓opsR, Nat.reduceAdd, Nat.reduceSub, tmR, D_all, F_all, caR, taR, ctrEach, Nat.reduceBEq, BEq.rfl, cond_true, cond_false, allocR, newObj, zeroElem, isR, alR, ne_eq, reduceCtorEq, not_false_eq_true, true_and, List.length_cons, List.length_nil, List.nil_append]
  refine ⟨rfl, v, rfl, ?_⟩
  refine wpc_rf f_val_each_1 [.addr (encV v)] (ps.map rowOf) (fun i O => partsObjs (ps.take i) O ∧ i ≤ ps.length) rfl rfl rfl trivial (each1_gives v n r ps hv hl hm hp) ?_ ⟨.inl ⟨by simp, rfl⟩, Nat.zero_le _⟩ ?_ ?_ ?_
  · intro y hy
    obtain ⟨p, _, rfl⟩ := List.mem_map.1 hy
    rfl
  · rintro i O ⟨h | ⟨_, ver, rfl⟩, _⟩
    · rw [h.2]
      refine ⟨by simp, ?_⟩
      intro o ho x hx c hc
      simp only [List.mem_singleton] at ho
      subst ho
      simp only [List.mem_singleton] at hx
      subst hx
      simp only [PV.cells, List.mem_singleton] at hc
      subst hc
      rfl
    · refine ⟨by simp, ?_⟩
      intro o ho x hx c hc
      simp only [List.mem_cons, List.not_mem_nil, or_false] at ho
      rcases ho with rfl | rfl
      · simp only [List.mem_singleton] at hx
        subst hx
        simp only [PV.cells, List.mem_singleton] at hc
        subst hc
        rfl
      · simp only [List.mem_map] at hx
        obtain ⟨p, _, rfl⟩ := hx
        simp only [encV, PV.cells, List.mem_singleton] at hc
        subst hc
        rfl
  · rintro i args O ⟨hO, hi⟩ ha
    rw [List.getElem?_map] at ha
    obtain ⟨p, hpi, rfl⟩ : ∃ p, ps[i]? = some p ∧ rowOf p = args := by
      cases hx : ps[i]? with
      | none => rw [hx] at ha; simp at ha
      | some p => rw [hx] at ha; exact ⟨p, rfl, by simpa using ha⟩
    have hil : i < ps.length := (List.getElem?_eq_some_iff.1 hpi).1
    have htk : ps.take (i + 1) = ps.take i ++ [p] := by rw [List.take_add_one, hpi]; rfl
    rcases hO with ⟨h0, rfl⟩ | ⟨h0, ver, rfl⟩
    · simp only [rowOf, setL, obR, ↓exi, ↓exi2, reduceIte, Bool.false_eq_true, if_false, ↓wpR, ↓lrR, ↓exR, ↓guR, stR, ↓opsR, Nat.reduceAdd, Nat.reduceSub, tmR, D_all, builtinR', loadR, buildSliceR, appendR, srcR, newObj, setAll, storeR, zeroElem, agR, subR, isR, alR, ne_eq, reduceCtorEq, not_false_eq_true, true_and, List.length_cons, List.length_nil, List.nil_append]
      refine ⟨by decide, fun _ => trivial, rfl, by decide, rfl, rfl, rfl, ?_, by decide, by decide, by decide, fun _ => trivial, rfl, .inr ⟨by rw [htk]; simp, 1, ?_⟩, by omega⟩
      · intro y hy
        simp only [List.mem_singleton] at hy
        subst hy
        exact ⟨rfl, rfl⟩
      · rw [htk, h0]; rfl
    · have hlen : ps.length ≤ 1099511627776 := by
        have h1 := parts_len _ _ _ hp
        have h2 := parts_le _ _ _ hp
        rw [hv] at hl
        simp at hl
        omega
      simp only [rowOf, setL, obR, ↓exi, ↓exi2, reduceIte, Bool.false_eq_true, if_false, ↓wpR, ↓lrR, ↓exR, ↓guR, stR, ↓opsR, Nat.reduceAdd, Nat.reduceSub, tmR, D_all, builtinR', loadR, buildSliceR, appendR, srcR, newObj, setAll, storeR, zeroElem, agR, subR, isR, alR, ne_eq, reduceCtorEq, not_false_eq_true, true_and, List.length_cons, List.length_nil, List.nil_append]
      refine ⟨by decide, fun _ => trivial, rfl, by decide, rfl, rfl, rfl, ?_, by simp; omega, by simp; omega, fun _ _ h => h.elim, by decide, fun _ => trivial, rfl, .inr ⟨by rw [htk]; simp, ver + 1, ?_⟩, by omega⟩
      · intro y hy
        simp only [List.mem_singleton] at hy
        subst hy
        exact ⟨rfl, rfl⟩
      · rw [htk, List.map_append]; rfl
  · rintro O ⟨hO, _⟩
    rw [List.length_map, List.take_length] at hO
    rcases hO with ⟨h0, rfl⟩ | ⟨h0, ver, rfl⟩
    · rw [if_pos h0]
      simp only [obR, ↓exi, ↓exi2, reduceIte, ↓exR, stR, tmR, loadR, agR, subR, isR, alR, retR, outL, onePV, frR, fzR, ne_eq, reduceCtorEq, not_false_eq_true, true_and, List.length_cons, List.length_nil, List.nil_append]
      exact ⟨by decide, fun _ => trivial, rfl, trivial⟩
    · rw [if_neg h0]
      simp only [obR, ↓exi, ↓exi2, reduceIte, ↓exR, stR, tmR, loadR, agR, subR, isR, alR, retR, outL, onePV, frR, fzR, ne_eq, reduceCtorEq, not_false_eq_true, true_and, List.length_cons, List.length_nil, List.nil_append]
      refine ⟨by decide, fun _ => trivial, rfl, ?_⟩
      simp only [frz, Nat.not_lt_zero, if_false, frzI, List.getElem?_cons_succ, List.getElem?_cons_zero, Nat.le_refl, Nat.zero_le, decide_true, Bool.and_self, BEq.rfl, if_true, List.map_map]
      congr 1

theorem parts_spec (v : Vl) (n : Nd) (r : Vl) (ps : List Vl) (hv : v = n :: r) (hl : v.length ≤ 1099511627776) (hm : 0 ≤ n.many) (hp : parts n.many.toNat r = some ps) :
    FnSpec Tryd.prog f_val_Parts [encV v] [] (.sl 1 (ps.map fun p => encV (clr p)) none) [] := by
  refine (parts_spec0 v n r ps hv hl hm hp).le_res fun w ok u h => ?_
  split at h
  · rename_i h0
    subst h0
    exact rep_nil h (by simp)
  · exact h
end Lp

/-! LpW4 -/

namespace Lp
open Go Go.Proofs

set_option maxHeartbeats 2000000
set_option linter.unusedSimpArgs false

/-- The boxed list of Names, so many in it. -/
def namesObjs (done : List Vl) (O : List Obj) : Prop :=
  (done = [] ∧ O = [⟨t_L_string, 1, [.sl 0 [] (some true)], true, 1⟩]) ∨
  (done ≠ [] ∧ ∃ ver, O = [⟨t_L_string, 1, [.osl 1 ver], true, 1⟩, ⟨t_string, 1, done.map fun p => .str (nameOf p), true, ver⟩])

theorem names_spec0 (v : Vl) (n : Nd) (r : Vl) (ps : List Vl) (hv : v = n :: r) (hl : v.length ≤ 1099511627776) (hm : 0 ≤ n.many) (hp : parts n.many.toNat r = some ps) :
    FnSpec Tryd.prog f_val_Names [encV v] [] (if n.kind = 6 ∧ ps ≠ [] then .sl 1 (ps.map fun p => .str (nameOf p)) none else .sl 0 [] (some true)) [] := by
  subst hv
  refine k_val_Names.pure (T := tabL Tryd.prog [(f_val_each, ctrEach)]) 2 hD (kOk_tabL (tabOk_cons ctrEach_ok tabOk_nil)) hmix (by decide) ?_
  simp only [c_val_Names, ↓wpR, knR, ↓lrR, ↓exR, ↓guR, stR, ↓opsR, Nat.reduceAdd, Nat.reduceSub, tmR, D_all, F_all, caR, taR, ctrEach, Nat.reduceBEq, BEq.rfl, cond_true, cond_false, allocR, newObj, zeroElem, ↓exmap, ↓exi, indexAddrR, loadR, fieldAddrR, fieldOf, encV, encN, biR, biI, agR, subR, List.map_cons, Int.reduceToNat, Int.toNat_zero, Int.reduceLE, Nat.reduceLeDiff, forall_const, Bool.not_false, Bool.and_self, ↓exi2, obR, retR, outL, onePV, frR, isR, alR, ne_eq, reduceCtorEq, not_false_eq_true, true_and, List.length_cons, List.length_nil, List.nil_append]
  refine ⟨rfl, fun hk => ⟨n :: r, rfl, ?_⟩, fun hk => ?_⟩
  · have hk6 : n.kind = 6 := of_decide_eq_true hk
    refine wpc_rf f_val_each_1 [.addr (encV (n :: r))] (ps.map rowOf) (fun i O => namesObjs (ps.take i) O ∧ i ≤ ps.length) rfl rfl rfl trivial (each1_gives (n :: r) n r ps rfl hl hm hp) ?_ ⟨.inl ⟨by simp, rfl⟩, Nat.zero_le _⟩ ?_ ?_ ?_
    · intro y hy
      obtain ⟨p, _, rfl⟩ := List.mem_map.1 hy
      rfl
    · rintro i O ⟨h | ⟨_, ver, rfl⟩, _⟩
      · rw [h.2]
        refine ⟨by simp, ?_⟩
        intro o ho x hx c hc
        simp only [List.mem_singleton] at ho
        subst ho
        simp only [List.mem_singleton] at hx
        subst hx
        simp only [PV.cells, List.mem_singleton] at hc
        subst hc
        rfl
      · refine ⟨by simp, ?_⟩
        intro o ho x hx c hc
        simp only [List.mem_cons, List.not_mem_nil, or_false] at ho
        rcases ho with rfl | rfl
        · simp only [List.mem_singleton] at hx
          subst hx
          simp only [PV.cells, List.mem_singleton] at hc
          subst hc
          rfl
        · simp only [List.mem_map] at hx
          obtain ⟨p, _, rfl⟩ := hx
          simp only [PV.cells, List.mem_singleton] at hc
          subst hc
          rfl
    · rintro i args O ⟨hO, hi⟩ ha
      rw [List.getElem?_map] at ha
      obtain ⟨p, hpi, rfl⟩ : ∃ p, ps[i]? = some p ∧ rowOf p = args := by
        cases hx : ps[i]? with
        | none => rw [hx] at ha; simp at ha
        | some p => rw [hx] at ha; exact ⟨p, rfl, by simpa using ha⟩
      have hil : i < ps.length := (List.getElem?_eq_some_iff.1 hpi).1
      have htk : ps.take (i + 1) = ps.take i ++ [p] := by rw [List.take_add_one, hpi]; rfl
      rcases hO with ⟨h0, rfl⟩ | ⟨h0, ver, rfl⟩
      · simp only [rowOf, setL, obR, ↓exi, ↓exi2, reduceIte, Bool.false_eq_true, if_false, ↓wpR, ↓lrR, ↓exR, ↓guR, stR, ↓opsR, Nat.reduceAdd, Nat.reduceSub, tmR, D_all, builtinR', loadR, buildSliceR, appendR, srcR, newObj, setAll, storeR, zeroElem, agR, subR, isR, alR, ne_eq, reduceCtorEq, not_false_eq_true, true_and, List.length_cons, List.length_nil, List.nil_append]
        refine ⟨by decide, fun _ => trivial, rfl, by decide, rfl, rfl, rfl, ?_, by decide, by decide, by decide, fun _ => trivial, rfl, .inr ⟨by rw [htk]; simp, 1, ?_⟩, by omega⟩
        · intro y hy
          simp only [List.mem_singleton] at hy
          subst hy
          exact ⟨rfl, rfl⟩
        · rw [htk, h0]; rfl
      · have hlen : ps.length ≤ 1099511627776 := by
          have h1 := parts_len _ _ _ hp
          have h2 := parts_le _ _ _ hp
          simp at hl
          omega
        simp only [rowOf, setL, obR, ↓exi, ↓exi2, reduceIte, Bool.false_eq_true, if_false, ↓wpR, ↓lrR, ↓exR, ↓guR, stR, ↓opsR, Nat.reduceAdd, Nat.reduceSub, tmR, D_all, builtinR', loadR, buildSliceR, appendR, srcR, newObj, setAll, storeR, zeroElem, agR, subR, isR, alR, ne_eq, reduceCtorEq, not_false_eq_true, true_and, List.length_cons, List.length_nil, List.nil_append]
        refine ⟨by decide, fun _ => trivial, rfl, by decide, rfl, rfl, rfl, ?_, by simp; omega, by simp; omega, fun _ _ h => h.elim, by decide, fun _ => trivial, rfl, .inr ⟨by rw [htk]; simp, ver + 1, ?_⟩, by omega⟩
        · intro y hy
          simp only [List.mem_singleton] at hy
          subst hy
          exact ⟨rfl, rfl⟩
        · rw [htk, List.map_append]; rfl
    · rintro O ⟨hO, _⟩
      rw [List.length_map, List.take_length] at hO
      rcases hO with ⟨h0, rfl⟩ | ⟨h0, ver, rfl⟩
      · rw [if_neg (fun h => h.2 h0)]
        simp only [obR, ↓exi, ↓exi2, reduceIte, ↓exR, stR, tmR, loadR, agR, subR, isR, alR, retR, outL, onePV, frR, fzR, ne_eq, reduceCtorEq, not_false_eq_true, true_and, List.length_cons, List.length_nil, List.nil_append]
        simp
      · rw [if_pos ⟨hk6, h0⟩]
        simp only [obR, ↓exi, ↓exi2, reduceIte, ↓exR, stR, tmR, loadR, agR, subR, isR, alR, retR, outL, onePV, frR, fzR, ne_eq, reduceCtorEq, not_false_eq_true, true_and, List.length_cons, List.length_nil, List.nil_append]
        refine ⟨by decide, rfl, ?_⟩
        simp only [frz, Nat.not_lt_zero, if_false, frzI, List.getElem?_cons_succ, List.getElem?_cons_zero, Nat.le_refl, Nat.zero_le, decide_true, Bool.and_self, BEq.rfl, if_true, List.map_map]
        congr 1
  · have hk6 : n.kind ≠ 6 := of_decide_eq_false hk
    rw [if_neg (fun h => hk6 h.1)]

theorem names_spec (v : Vl) (n : Nd) (r : Vl) (ps : List Vl) (hv : v = n :: r) (hl : v.length ≤ 1099511627776) (hm : 0 ≤ n.many) (hp : parts n.many.toNat r = some ps) :
    FnSpec Tryd.prog f_val_Names [encV v] [] (.sl 1 ((namesOf n ps).map .str) none) [] := by
  refine (names_spec0 v n r ps hv hl hm hp).le_res fun w ok u h => ?_
  unfold namesOf
  by_cases hk : n.kind = 6
  · rw [if_pos hk]
    by_cases h0 : ps = []
    · subst h0
      rw [if_neg (fun h => h.2 rfl)] at h
      exact rep_nil h (by simp)
    · rw [if_pos ⟨hk, h0⟩] at h
      rw [List.map_map]
      exact h
  · rw [if_neg hk]
    rw [if_neg (fun h => hk h.1)] at h
    exact rep_nil h (by simp)

end Lp

/-! LpW8 -/

namespace Lp
open Go Go.Proofs

/-- Two boxed nodes, frozen. -/
theorem frzB0 (x y : Nd) : frz 1 0 [⟨t_api_Node, 6, [encN x], true, 1⟩, ⟨t_api_Node, 6, [encN y], true, 1⟩] (.optr 0 1 0 0) = .addr (encN x) := rfl
theorem frzB1 (x y : Nd) : frz 1 0 [⟨t_api_Node, 6, [encN x], true, 1⟩, ⟨t_api_Node, 6, [encN y], true, 1⟩] (.optr 1 1 0 0) = .addr (encN y) := rfl
/-- One. -/
theorem frzC0 (x : Nd) : frz 1 0 [⟨t_api_Node, 6, [encN x], true, 1⟩] (.optr 0 1 0 0) = .addr (encN x) := rfl

theorem tf (p : Prop) : p = True ∨ p = False := by
  by_cases h : p
  · exact .inl (eq_true h)
  · exact .inr (eq_false h)

end Lp
