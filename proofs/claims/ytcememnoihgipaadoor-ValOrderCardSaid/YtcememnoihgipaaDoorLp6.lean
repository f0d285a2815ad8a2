/-
  Part 6 of what the statement rests on: LpV6, LpV7, LpV8, LpV9, LpW30, LpD1, LpD2, LpV5, LpLay, LpLib, LpD4, LpD5, LpV10, LpX1, LpD6, LpD9, LpD10, LpD11, LpD12, LpD7. No condition.
-/
import Derived.Test.YtcememnoihgipaaDoorLp5
import Derived.Lib.TrimByte
import Derived.Lib.ValidLaws
import Derived.Shelf.Strings.FuncGrows
import Derived.Shelf.SlGeneric
import Derived.Ground.NamesProg
import Derived.Ground.Names8Prog
import Derived.Shelf.Strings.Trim
import Derived.Shelf.Sort.Plain
import Derived.Shelf.Slices.In.SortNone
import Derived.Shelf.Unicode.ValidAny
import Derived.Shelf.Spec.SlicesGrow
import Derived.Test.YtcememnoihgipaaDoorProg

set_option linter.all false

/-! LpV6 -/

namespace Lp
open Go

theorem skip_nxtV (L : Nat) : ∀ (v : Vl) (k c : Nat), skip v k = some c → c ≤ L → nxt L v k = some c
  | v, 0, c, h, _ => by cases v <;> simpa [nxt, skip] using h
  | [], k + 1, c, h, _ => by simp [skip] at h
  | n :: v, k + 1, c, h, hc => by
    obtain ⟨hm, c', rfl, h'⟩ := skip_step h
    have := skip_le _ _ _ h'
    rw [nxt, if_neg (by omega), skip_nxtV L v _ c' h' (by omega)]; rfl

theorem rt_rightB {v : Vl} (h : Rt v) : rightB v = true := by
  have h1 := skip_nxtV v.length v 1 _ h.one (Nat.le_refl _)
  have h2 : v.isEmpty = false := by
    cases v with
    | nil => exact absurd rfl h.one.ne
    | cons => rfl
  simp [rightB, h1, h2, h.name, (goodB_iff v).2 h.good]

theorem rightB_iff {v : Vl} : rightB v = true ↔ Rt v := ⟨rightB_rt, rt_rightB⟩

/-! ### Good values, one behind the other -/

theorem Good.app {p w : Vl} (hp : Good p) (hw : Good w) : Good (p ++ w) := by
  intro i n r hd
  rcases Nat.lt_or_ge i p.length with h | h
  · have hd' := List.drop_eq_getElem_cons h
    have e := drop_app (w := w) hd'
    obtain ⟨rfl, rfl⟩ := List.cons.inj (e.symm.trans hd)
    obtain ⟨h1, ps, h2, h3⟩ := hp i _ _ hd'
    exact ⟨h1, ps, parts_append _ _ w _ h2, h3⟩
  · have e : (p ++ w).drop i = w.drop (i - p.length) := by
      rw [List.drop_append, List.drop_eq_nil_of_le h, List.nil_append]
    exact hw (i - p.length) n r (by rw [← e]; exact hd)

theorem Good.nil : Good [] := fun i n r h => by simp at h

theorem Good.flat : ∀ (ps : List Vl), (∀ p ∈ ps, Good p) → Good ps.flatten
  | [], _ => Good.nil
  | p :: ps, h => by
    rw [List.flatten_cons]
    exact (h p (List.mem_cons_self ..)).app (Good.flat ps fun q hq => h q (List.mem_cons_of_mem _ hq))

theorem Good.of_clr {v : Vl} (h : Good (Lp.clr v)) : Good v := by
  cases v with
  | nil => exact h
  | cons n r =>
    intro i m s hd
    cases i with
    | zero =>
      simp only [List.drop_zero, List.cons.injEq] at hd
      obtain ⟨rfl, rfl⟩ := hd
      exact h 0 { n with name := [] } r rfl
    | succ i => exact h (i + 1) m s hd

theorem One.of_clr {v : Vl} (h : One (Lp.clr v)) : One v := by
  unfold One at *
  rw [skip_clr, clr_length] at h
  exact h

theorem Good.made {n : Nd} {ps : List Vl} (hn : plainB n = true) (hm : n.many = ps.length) (hr : risB n.kind ps = true) (h : ∀ p ∈ ps, One p ∧ Good p) : Good (n :: ps.flatten) := by
  intro i m s hd
  cases i with
  | zero =>
    simp only [List.drop_zero, List.cons.injEq] at hd
    obtain ⟨rfl, rfl⟩ := hd
    refine ⟨hn, ps, ?_, hr⟩
    rw [hm, Int.toNat_natCast]
    exact parts_flatten ps fun p hp => (h p hp).1
  | succ i => exact Good.flat ps (fun p hp => (h p hp).2) i m s (by simpa using hd)

theorem Rt.made {n : Nd} {ps : List Vl} (hn : plainB n = true) (hm : n.many = ps.length) (hname : n.name = []) (hr : risB n.kind ps = true) (h : ∀ p ∈ ps, One p ∧ Good p) : Rt (n :: ps.flatten) :=
  ⟨One.made hm fun p hp => (h p hp).1, hname, Good.made hn hm hr h⟩

theorem clr_id {v : Vl} (h : nameOf v = []) : clr v = v := by
  cases v with
  | nil => rfl
  | cons n r => cases n; simp only [nameOf] at h; subst h; rfl

theorem map_clr_id {l : List Vl} (h : ∀ p ∈ l, nameOf p = []) : l.map clr = l := by
  induction l with
  | nil => rfl
  | cons p l ih => rw [List.map_cons, clr_id (h p (List.mem_cons_self ..)), ih fun q hq => h q (List.mem_cons_of_mem _ hq)]

/-! ### Lists -/

def listV (l : List Vl) : Vl := ⟨5, l.length, [], [], false, 0⟩ :: l.flatten

theorem risB5 : ∀ ps : List Vl, (∀ p ∈ ps, nameOf p = []) → risB 5 ps = true
  | [], _ => rfl
  | [p], h => by
    have := h p (by simp)
    simp [risB, this]; decide
  | p :: q :: ps, h => by
    have := h p (by simp)
    have ih := risB5 (q :: ps) fun x hx => h x (List.mem_cons_of_mem _ hx)
    rw [risB, this, ih]; rfl

theorem rt_listV {l : List Vl} (h : ∀ p ∈ l, Rt p) : Rt (listV l) :=
  Rt.made (n := ⟨5, l.length, [], [], false, 0⟩) (by simp [plainB]) rfl rfl (risB5 l fun p hp => (h p hp).name) fun p hp => ⟨(h p hp).one, (h p hp).good⟩

theorem partsV_listV {l : List Vl} (h : ∀ p ∈ l, Rt p) : partsV (listV l) = l := by
  have : parts (l.length : Int).toNat l.flatten = some l := by rw [Int.toNat_natCast]; exact parts_flatten l fun p hp => (h p hp).one
  simp only [listV, partsV, (partsOf_eq (n := ⟨5, l.length, [], [], false, 0⟩) this).1]
  exact map_clr_id fun p hp => (h p hp).name

theorem plain_arr {n : Nd} (h : plainB n = true) (hk : n.kind = 5 ∨ n.kind = 6) : 0 ≤ n.many ∧ n.s = [] ∧ n.neg = false ∧ n.e = 0 := by
  unfold plainB at h
  rw [if_neg (by omega), if_neg (by omega), if_neg (by omega), if_pos hk] at h
  simpa [and_assoc] using h

theorem listV_parts {n : Nd} {r : Vl} (h : Rt (n :: r)) (hk : n.kind = 5) : listV (partsV (n :: r)) = n :: r := by
  obtain ⟨h1, h2, ps, h3, h4, h5, _, _⟩ := h.parts
  obtain ⟨_, e2, e3, e4⟩ := plain_arr h1 (.inl hk)
  have hn : n.name = [] := h.name
  have hc : ps.map clr = ps := map_clr_id fun p hp => by
    rw [hk] at h5
    have := risB_arr ps h5
    obtain ⟨i, hi, rfl⟩ := List.mem_iff_getElem.1 hp
    have := congrArg (fun l => l[i]?) this
    simpa [hi] using this
  have hl := parts_len _ _ _ h3
  simp only [partsV, (partsOf_eq h3).1, hc, listV, h4]
  obtain ⟨k, m, nm, s, g, e⟩ := n
  simp only at hk e2 e3 e4 hn hl h2
  subst hk; subst e2; subst e3; subst e4; subst hn
  congr 2
  omega

/-! ### Names that rise -/

abbrev Rise (l : List (List UInt8)) : Prop := l.Pairwise fun x y => Op.bytesLess x y = true

theorem risB6 : ∀ ps : List Vl, risB 6 ps = true ↔ (∀ p ∈ ps, utf (nameOf p) = true) ∧ Rise (ps.map nameOf)
  | [] => by simp [risB, Rise]
  | [p] => by simp [risB, Rise]
  | p :: q :: ps => by
    have ih := risB6 (q :: ps)
    have e : risB 6 (p :: q :: ps) = (utf (nameOf p) && Op.bytesLess (nameOf p) (nameOf q) && risB 6 (q :: ps)) := by
      rw [risB]; simp
    rw [e, Bool.and_eq_true, Bool.and_eq_true, ih]
    constructor
    · rintro ⟨⟨h1, h2⟩, h3, h4⟩
      refine ⟨?_, ?_⟩
      · intro x hx
        rcases List.mem_cons.1 hx with rfl | hx
        · exact h1
        · exact h3 x hx
      · rw [List.map_cons]
        refine List.pairwise_cons.2 ⟨fun x hx => ?_, h4⟩
        rw [List.map_cons] at hx h4
        rcases List.mem_cons.1 hx with rfl | hx
        · exact h2
        · exact bl_trans _ _ _ h2 ((List.pairwise_cons.1 h4).1 x hx)
    · rintro ⟨h1, h2⟩
      rw [List.map_cons] at h2
      obtain ⟨h3, h4⟩ := List.pairwise_cons.1 h2
      exact ⟨⟨h1 p (by simp), h3 _ (by simp)⟩, fun x hx => h1 x (List.mem_cons_of_mem _ hx), h4⟩

/-! ### Objects -/

def setN (nm : List UInt8) : Vl → Vl
  | [] => []
  | n :: r => { n with name := nm } :: r

theorem clr_setN (nm : List UInt8) (v : Vl) : clr (setN nm v) = clr v := by cases v <;> rfl
theorem setN_length (nm : List UInt8) (v : Vl) : (setN nm v).length = v.length := by cases v <;> rfl
theorem nameOf_setN (nm : List UInt8) {v : Vl} (h : v ≠ []) : nameOf (setN nm v) = nm := by
  cases v with
  | nil => exact absurd rfl h
  | cons n r => rfl
theorem setN_clr (v : Vl) : setN (nameOf v) (clr v) = v := by cases v <;> rfl
theorem One.setN {v : Vl} (h : One v) (nm : List UInt8) : One (Lp.setN nm v) := One.of_clr (by rw [clr_setN]; exact h.clr)
theorem Good.setN {v : Vl} (h : Good v) (nm : List UInt8) : Good (Lp.setN nm v) := Good.of_clr (by rw [clr_setN]; exact h.clr)

abbrev Prs := List (List UInt8 × Vl)

def layV (names : List (List UInt8)) (l : List Vl) : Vl := ⟨6, l.length, [], [], false, 0⟩ :: (List.zipWith setN names l).flatten

def mkO (l : Prs) : Vl := ⟨6, l.length, [], [], false, 0⟩ :: (l.map fun x => setN x.1 x.2).flatten

theorem layV_mkO : ∀ l : Prs, layV (l.map (·.1)) (l.map (·.2)) = mkO l := by
  intro l
  have : List.zipWith setN (l.map (·.1)) (l.map (·.2)) = l.map fun x => setN x.1 x.2 := by
    induction l with
    | nil => rfl
    | cons x l ih => simp only [List.map_cons, List.zipWith_cons_cons, ih]
  simp only [layV, mkO, this, List.length_map]

theorem layV_zip (names : List (List UInt8)) (l : List Vl) (h : names.length = l.length) : layV names l = mkO (names.zip l) := by
  rw [← layV_mkO, List.map_fst_zip (by omega), List.map_snd_zip (by omega)]

def prs (v : Vl) : Prs := (namesV v).zip (partsV v)

structure PairsOk (l : Prs) : Prop where
  rise : Rise (l.map (·.1))
  utf : ∀ x ∈ l, utf x.1 = true
  rt : ∀ x ∈ l, Rt x.2

theorem rt_mkO {l : Prs} (h : PairsOk l) : Rt (mkO l) := by
  refine Rt.made (n := ⟨6, l.length, [], [], false, 0⟩) (by simp [plainB]) (by simp) rfl ?_ ?_
  · show risB 6 _ = true
    rw [risB6]
    have e : (l.map fun x => setN x.1 x.2).map nameOf = l.map (·.1) := by
      rw [List.map_map]
      exact List.map_congr_left fun x hx => nameOf_setN _ (h.rt x hx).one.ne
    refine ⟨fun p hp => ?_, by rw [e]; exact h.rise⟩
    obtain ⟨x, hx, rfl⟩ := List.mem_map.1 hp
    rw [nameOf_setN _ (h.rt x hx).one.ne]
    exact h.utf x hx
  · intro p hp
    obtain ⟨x, hx, rfl⟩ := List.mem_map.1 hp
    exact ⟨(h.rt x hx).one.setN _, (h.rt x hx).good.setN _⟩

theorem parts_mkO {l : Prs} (h : ∀ x ∈ l, Rt x.2) : partsV (mkO l) = l.map (·.2) ∧ namesV (mkO l) = l.map (·.1) := by
  have hp : parts (l.length : Int).toNat (l.map fun x => setN x.1 x.2).flatten = some (l.map fun x => setN x.1 x.2) := by
    have := parts_flatten (l.map fun x => setN x.1 x.2) fun p hp => by
      obtain ⟨x, hx, rfl⟩ := List.mem_map.1 hp
      exact (h x hx).one.setN _
    rw [List.length_map] at this
    rw [Int.toNat_natCast]; exact this
  obtain ⟨e1, e2⟩ := partsOf_eq (n := ⟨6, l.length, [], [], false, 0⟩) hp
  refine ⟨?_, ?_⟩
  · simp only [mkO, partsV, e1, List.map_map]
    exact List.map_congr_left fun x hx => by simp only [Function.comp]; rw [clr_setN, clr_id (h x hx).name]
  · simp only [mkO, namesV, if_true, e2, List.map_map]
    exact List.map_congr_left fun x hx => nameOf_setN _ (h x hx).one.ne

theorem zip_map_self : ∀ l : Prs, (l.map (·.1)).zip (l.map (·.2)) = l
  | [] => rfl
  | x :: l => by simp [zip_map_self l]

theorem prs_mkO {l : Prs} (h : ∀ x ∈ l, Rt x.2) : prs (mkO l) = l := by
  obtain ⟨h1, h2⟩ := parts_mkO h
  rw [prs, h1, h2, zip_map_self]

theorem zip_maps : ∀ ps : List Vl, (ps.map nameOf).zip (ps.map clr) = ps.map fun p => (nameOf p, clr p)
  | [] => rfl
  | p :: ps => by simp [zip_maps ps]

/-- An object: its names and parts. -/
theorem prs_ok {n : Nd} {r : Vl} (h : Rt (n :: r)) (hk : n.kind = 6) : PairsOk (prs (n :: r)) ∧ mkO (prs (n :: r)) = n :: r ∧ namesV (n :: r) = (prs (n :: r)).map (·.1) ∧ partsV (n :: r) = (prs (n :: r)).map (·.2) := by
  obtain ⟨h1, h2, ps, h3, h4, h5, h6, h7⟩ := h.parts
  obtain ⟨_, e2, e3, e4⟩ := plain_arr h1 (.inr hk)
  have hn : n.name = [] := h.name
  obtain ⟨q1, q2⟩ := partsOf_eq h3
  have en : namesV (n :: r) = ps.map nameOf := by simp only [namesV, hk, if_true, q2]
  have ep : partsV (n :: r) = ps.map clr := by simp only [partsV, q1]
  have epr : prs (n :: r) = ps.map fun p => (nameOf p, clr p) := by
    rw [prs, en, ep]
    exact zip_maps ps
  rw [hk] at h5
  obtain ⟨u1, u2⟩ := (risB6 ps).1 h5
  have hl := parts_len _ _ _ h3
  refine ⟨⟨?_, ?_, ?_⟩, ?_, ?_, ?_⟩
  · rw [epr, List.map_map]; exact u2
  · rw [epr]; intro x hx
    obtain ⟨p, hp, rfl⟩ := List.mem_map.1 hx
    exact u1 p hp
  · rw [epr]; intro x hx
    obtain ⟨p, hp, rfl⟩ := List.mem_map.1 hx
    exact h7 p hp
  · rw [epr, mkO, List.map_map, List.length_map]
    have : ps.map ((fun x : List UInt8 × Vl => setN x.1 x.2) ∘ fun p => (nameOf p, clr p)) = ps := by
      conv => rhs; rw [← List.map_id ps]
      exact List.map_congr_left fun p _ => setN_clr p
    rw [this, h4]
    obtain ⟨k, m, nm, s, g, e⟩ := n
    simp only at hk e2 e3 e4 hn hl h2
    subst hk; subst e2; subst e3; subst e4; subst hn
    congr 2
    omega
  · rw [en, epr, List.map_map]; rfl
  · rw [ep, epr, List.map_map]; rfl

/-! ### Pairs -/

theorem rise_ext : ∀ a b : Prs, Rise (a.map (·.1)) → Rise (b.map (·.1)) → (∀ x, x ∈ a ↔ x ∈ b) → a = b
  | [], [], _, _, _ => rfl
  | [], y :: b, _, _, h => by have := (h y).2 (by simp); cases this
  | x :: a, [], _, _, h => by have := (h x).1 (by simp); cases this
  | x :: a, y :: b, ha, hb, h => by
    rw [List.map_cons] at ha hb
    obtain ⟨a1, a2⟩ := List.pairwise_cons.1 ha
    obtain ⟨b1, b2⟩ := List.pairwise_cons.1 hb
    have hxy : x = y := by
      rcases List.mem_cons.1 ((h x).1 (by simp)) with e | hx
      · exact e
      · rcases List.mem_cons.1 ((h y).2 (by simp)) with e | hy
        · exact e.symm
        · have g1 := b1 x.1 (List.mem_map.2 ⟨x, hx, rfl⟩)
          have g2 := a1 y.1 (List.mem_map.2 ⟨y, hy, rfl⟩)
          rw [bl_asymm _ _ g1] at g2; cases g2
    subst hxy
    have hno : ∀ c : Prs, (∀ z ∈ c.map (·.1), Op.bytesLess x.1 z = true) → x ∉ c := fun c hc hx => by
      have := hc x.1 (List.mem_map.2 ⟨x, hx, rfl⟩)
      rw [bl_irrefl] at this; cases this
    have : a = b := rise_ext a b a2 b2 fun z => by
      have hz := h z
      simp only [List.mem_cons] at hz
      constructor
      · intro hza
        rcases hz.1 (.inr hza) with rfl | hzb
        · exact absurd hza (hno a a1)
        · exact hzb
      · intro hzb
        rcases hz.2 (.inr hzb) with rfl | hza
        · exact absurd hzb (hno b b1)
        · exact hza
    rw [this]

theorem rise_nodup {l : List (List UInt8)} (h : Rise l) : l.Nodup := by
  refine h.imp fun {a b} hab e => ?_
  subst e
  rw [bl_irrefl] at hab; cases hab

def getP (l : Prs) (nm : List UInt8) : Option Vl := (l.find? fun x => decide (x.1 = nm)).map (·.2)
def delP (l : Prs) (nm : List UInt8) : Prs := l.filter fun x => !decide (x.1 = nm)
def putP (nm : List UInt8) (x : Vl) : Prs → Prs
  | [] => [(nm, x)]
  | y :: ys => if Op.bytesLess y.1 nm then y :: putP nm x ys else (nm, x) :: y :: ys

theorem mem_putP (nm : List UInt8) (x : Vl) : ∀ (l : Prs) (z : List UInt8 × Vl), z ∈ putP nm x l ↔ z = (nm, x) ∨ z ∈ l
  | [], z => by simp [putP]
  | y :: ys, z => by
    rw [putP]
    split
    · rw [List.mem_cons, mem_putP nm x ys z, List.mem_cons]
      constructor
      · rintro (h | h | h)
        · exact .inr (.inl h)
        · exact .inl h
        · exact .inr (.inr h)
      · rintro (h | h | h)
        · exact .inr (.inl h)
        · exact .inl h
        · exact .inr (.inr h)
    · rw [List.mem_cons]

theorem putP_rise (nm : List UInt8) (x : Vl) : ∀ l : Prs, Rise (l.map (·.1)) → nm ∉ l.map (·.1) → Rise ((putP nm x l).map (·.1))
  | [], _, _ => by simp [putP, Rise]
  | y :: ys, h, hn => by
    rw [List.map_cons] at h hn
    obtain ⟨h1, h2⟩ := List.pairwise_cons.1 h
    rw [List.mem_cons] at hn
    rw [putP]
    split
    · rename_i hlt
      rw [List.map_cons]
      refine List.pairwise_cons.2 ⟨fun z hz => ?_, putP_rise nm x ys h2 fun h => hn (.inr h)⟩
      obtain ⟨w, hw, rfl⟩ := List.mem_map.1 hz
      rcases (mem_putP nm x ys w).1 hw with rfl | hw
      · exact hlt
      · exact h1 _ (List.mem_map.2 ⟨w, hw, rfl⟩)
    · rename_i hlt
      have hlt2 : Op.bytesLess nm y.1 = true := by
        rcases bl_tri nm y.1 with h | h | h
        · exact h
        · exact absurd (.inl h) hn
        · exact absurd h hlt
      rw [List.map_cons, List.map_cons]
      refine List.pairwise_cons.2 ⟨fun z hz => ?_, h⟩
      rcases List.mem_cons.1 hz with rfl | hz
      · exact hlt2
      · exact bl_trans _ _ _ hlt2 (h1 z hz)

theorem putP_ok {nm : List UInt8} {x : Vl} {l : Prs} (h : PairsOk l) (hn : nm ∉ l.map (·.1)) (hu : utf nm = true) (hx : Rt x) : PairsOk (putP nm x l) := by
  refine ⟨putP_rise nm x l h.rise hn, fun z hz => ?_, fun z hz => ?_⟩
  · rcases (mem_putP nm x l z).1 hz with rfl | hz
    · exact hu
    · exact h.utf z hz
  · rcases (mem_putP nm x l z).1 hz with rfl | hz
    · exact hx
    · exact h.rt z hz

theorem putP_length (nm : List UInt8) (x : Vl) : ∀ l : Prs, (putP nm x l).length = l.length + 1
  | [] => rfl
  | y :: ys => by
    rw [putP]
    split
    · simp [putP_length nm x ys]
    · simp

theorem delP_ok {l : Prs} (h : PairsOk l) (nm : List UInt8) : PairsOk (delP l nm) := by
  have hs : ∀ x ∈ delP l nm, x ∈ l := fun x hx => (List.mem_filter.1 hx).1
  refine ⟨?_, fun x hx => h.utf x (hs x hx), fun x hx => h.rt x (hs x hx)⟩
  exact List.Pairwise.sublist (List.Sublist.map _ List.filter_sublist) h.rise

theorem delP_no (l : Prs) (nm : List UInt8) : nm ∉ (delP l nm).map (·.1) := by
  intro h
  obtain ⟨x, hx, rfl⟩ := List.mem_map.1 h
  have := (List.mem_filter.1 hx).2
  simp at this

theorem delP_id {l : Prs} {nm : List UInt8} (h : nm ∉ l.map (·.1)) : delP l nm = l := by
  refine List.filter_eq_self.2 fun x hx => ?_
  have : x.1 ≠ nm := fun e => h (List.mem_map.2 ⟨x, hx, e⟩)
  simp [this]

theorem getP_none {l : Prs} {nm : List UInt8} : getP l nm = none ↔ nm ∉ l.map (·.1) := by
  unfold getP
  rw [Option.map_eq_none_iff, List.find?_eq_none]
  constructor
  · intro h hm
    obtain ⟨x, hx, rfl⟩ := List.mem_map.1 hm
    have := h x hx
    simp at this
  · intro h x hx
    have : x.1 ≠ nm := fun e => h (List.mem_map.2 ⟨x, hx, e⟩)
    simp [this]

theorem getP_some {l : Prs} {nm : List UInt8} {x : Vl} (h : getP l nm = some x) : (nm, x) ∈ l := by
  unfold getP at h
  cases hf : l.find? fun x => decide (x.1 = nm) with
  | none => rw [hf] at h; cases h
  | some y =>
    rw [hf] at h
    simp only [Option.map_some, Option.some.injEq] at h
    have h1 := List.mem_of_find?_eq_some hf
    have h2 := List.find?_some hf
    simp only [decide_eq_true_eq] at h2
    rw [← h, ← h2]; exact h1

theorem mem_getP {l : Prs} {nm : List UInt8} {x : Vl} (hr : (l.map (·.1)).Nodup) (h : (nm, x) ∈ l) : getP l nm = some x := by
  cases hg : getP l nm with
  | none => exact absurd (List.mem_map.2 ⟨_, h, rfl⟩) (getP_none.1 hg)
  | some y =>
    have hy := getP_some hg
    congr 1
    clear hg
    induction l with
    | nil => cases h
    | cons z l ih =>
      rw [List.map_cons] at hr
      obtain ⟨h1, h2⟩ := List.nodup_cons.1 hr
      rcases List.mem_cons.1 h with e | h
      · rcases List.mem_cons.1 hy with e2 | hy
        · rw [← e] at e2; injection e2 with _ e2
        · rw [← e] at h1; exact absurd (List.mem_map.2 ⟨_, hy, rfl⟩) h1
      · rcases List.mem_cons.1 hy with e2 | hy
        · rw [← e2] at h1; exact absurd (List.mem_map.2 ⟨_, h, rfl⟩) h1
        · exact ih h2 h hy

theorem mem_delP {l : Prs} {nm : List UInt8} {z : List UInt8 × Vl} : z ∈ delP l nm ↔ z ∈ l ∧ z.1 ≠ nm := by
  unfold delP
  rw [List.mem_filter]
  simp

/-- What is put is found; the rest as it was. -/
theorem getP_putP {nm : List UInt8} {x : Vl} {l : Prs} (h : PairsOk l) (hn : nm ∉ l.map (·.1)) : getP (putP nm x l) nm = some x :=
  mem_getP (rise_nodup (putP_rise nm x l h.rise hn)) ((mem_putP nm x l _).2 (.inl rfl))

theorem getP_putP_ne {nm k : List UInt8} {x : Vl} {l : Prs} (h : PairsOk l) (hn : nm ∉ l.map (·.1)) (hk : k ≠ nm) : getP (putP nm x l) k = getP l k := by
  cases hg : getP l k with
  | none =>
    rw [getP_none] at hg ⊢
    intro hm
    obtain ⟨z, hz, rfl⟩ := List.mem_map.1 hm
    rcases (mem_putP nm x l z).1 hz with rfl | hz
    · exact hk rfl
    · exact hg (List.mem_map.2 ⟨z, hz, rfl⟩)
  | some y => exact mem_getP (rise_nodup (putP_rise nm x l h.rise hn)) ((mem_putP nm x l _).2 (.inr (getP_some hg)))

theorem getP_delP_ne {nm k : List UInt8} {l : Prs} (h : PairsOk l) (hk : k ≠ nm) : getP (delP l nm) k = getP l k := by
  cases hg : getP l k with
  | none =>
    rw [getP_none] at hg ⊢
    intro hm
    obtain ⟨z, hz, rfl⟩ := List.mem_map.1 hm
    exact hg (List.mem_map.2 ⟨z, (mem_delP.1 hz).1, rfl⟩)
  | some y => exact mem_getP (rise_nodup (delP_ok h nm).rise) (mem_delP.2 ⟨getP_some hg, hk⟩)

theorem delP_putP {nm : List UInt8} {x : Vl} {l : Prs} (h : PairsOk l) (hn : nm ∉ l.map (·.1)) (hu : utf nm = true) (hx : Rt x) : delP (putP nm x l) nm = l := by
  refine rise_ext _ _ (delP_ok (putP_ok h hn hu hx) nm).rise h.rise fun z => ?_
  rw [mem_delP, mem_putP]
  constructor
  · rintro ⟨rfl | h1, h2⟩
    · exact absurd rfl h2
    · exact h1
  · intro hz
    exact ⟨.inr hz, fun e => hn (List.mem_map.2 ⟨z, hz, e⟩)⟩

theorem putP_delP {nm : List UInt8} {x : Vl} {l : Prs} (h : PairsOk l) (hg : getP l nm = some x) : putP nm x (delP l nm) = l := by
  have hm := getP_some hg
  refine rise_ext _ _ (putP_rise _ _ _ (delP_ok h nm).rise (delP_no l nm)) h.rise fun z => ?_
  rw [mem_putP, mem_delP]
  constructor
  · rintro (rfl | ⟨h1, _⟩)
    · exact hm
    · exact h1
  · intro hz
    by_cases e : z.1 = nm
    · left
      obtain ⟨z1, z2⟩ := z
      simp only at e
      subst e
      have := mem_getP (rise_nodup h.rise) hz
      rw [hg] at this
      cases this; rfl
    · exact .inr ⟨hz, e⟩

/-- The object of some. -/
def srtP (l : Prs) : Prs := l.foldr (fun x acc => putP x.1 x.2 acc) []

theorem mem_srtP (l : Prs) (z : List UInt8 × Vl) : z ∈ srtP l ↔ z ∈ l := by
  induction l with
  | nil => rfl
  | cons x l ih =>
    show z ∈ putP x.1 x.2 (srtP l) ↔ _
    rw [mem_putP, ih, List.mem_cons]

theorem srtP_rise {l : Prs} (h : (l.map (·.1)).Nodup) : Rise ((srtP l).map (·.1)) := by
  induction l with
  | nil => exact List.Pairwise.nil
  | cons x l ih =>
    rw [List.map_cons] at h
    obtain ⟨h1, h2⟩ := List.nodup_cons.1 h
    refine putP_rise _ _ _ (ih h2) fun hm => h1 ?_
    obtain ⟨z, hz, e⟩ := List.mem_map.1 hm
    exact List.mem_map.2 ⟨z, (mem_srtP l z).1 hz, e⟩

theorem srtP_length (l : Prs) : (srtP l).length = l.length := by
  induction l with
  | nil => rfl
  | cons x l ih =>
    show (putP x.1 x.2 (srtP l)).length = _
    rw [putP_length, ih]; rfl

theorem putP_perm (nm : List UInt8) (x : Vl) : ∀ l : Prs, (putP nm x l).Perm ((nm, x) :: l)
  | [] => .refl _
  | y :: ys => by
    rw [putP]
    split
    · exact ((putP_perm nm x ys).cons y).trans (.swap ..)
    · exact .refl _

theorem srtP_perm : ∀ l : Prs, (srtP l).Perm l
  | [] => .refl _
  | x :: l => (putP_perm x.1 x.2 (srtP l)).trans ((srtP_perm l).cons x)

theorem flat_perm {a b : List Vl} (h : a.Perm b) : a.flatten.length = b.flatten.length := by
  rw [List.length_flatten, List.length_flatten]
  exact (h.map List.length).sum_nat

theorem srtP_flat {names : List (List UInt8)} {l : List Vl} (h : names.length = l.length) : ((srtP (names.zip l)).map (·.2)).flatten.length = l.flatten.length := by
  have := flat_perm ((srtP_perm (names.zip l)).map (·.2))
  rw [List.map_snd_zip (by omega)] at this
  exact this

/-- Which names may an object have? -/
def namesOk (names : List (List UInt8)) (k : Nat) : Bool := decide (names.length = k) && decide names.Nodup && names.all utf

def objVal (names : List (List UInt8)) (l : List Vl) : Vl := if namesOk names l.length then mkO (srtP (names.zip l)) else []
def objErr (names : List (List UInt8)) (l : List Vl) : Int := if namesOk names l.length then 0 else 4

theorem namesOk_iff {names : List (List UInt8)} {k : Nat} : namesOk names k = true ↔ names.length = k ∧ names.Nodup ∧ ∀ x ∈ names, utf x = true := by
  simp [namesOk, and_assoc]

theorem srt_ok {names : List (List UInt8)} {l : List Vl} (h : namesOk names l.length = true) (hl : ∀ p ∈ l, Rt p) : PairsOk (srtP (names.zip l)) := by
  obtain ⟨h1, h2, h3⟩ := namesOk_iff.1 h
  refine ⟨srtP_rise (by rw [List.map_fst_zip (by omega)]; exact h2), fun x hx => ?_, fun x hx => ?_⟩
  · have := (mem_srtP _ _).1 hx
    exact h3 _ (List.of_mem_zip this).1
  · have := (mem_srtP _ _).1 hx
    exact hl _ (List.of_mem_zip this).2

/-- Sorted names, with their parts: what the object is. -/
theorem srtP_unique {names : List (List UInt8)} {l : List Vl} (h : namesOk names l.length = true) {q : Prs} (hq : Rise (q.map (·.1))) (hm : ∀ x, x ∈ q ↔ x ∈ names.zip l) : q = srtP (names.zip l) := by
  obtain ⟨h1, h2, h3⟩ := namesOk_iff.1 h
  exact rise_ext _ _ hq (srtP_rise (by rw [List.map_fst_zip (by omega)]; exact h2)) fun x => by rw [hm, mem_srtP]

/-- An object hangs on no order. -/
theorem objVal_perm {names names' : List (List UInt8)} {l l' : List Vl} (h1 : names.length = l.length) (h1' : names'.length = l'.length) (hp : (names.zip l).Perm (names'.zip l')) : objVal names l = objVal names' l' ∧ objErr names l = objErr names' l' := by
  have hn : names.Perm names' := by
    have := hp.map (·.1)
    rwa [List.map_fst_zip (by omega), List.map_fst_zip (by omega)] at this
  have hok : namesOk names l.length = namesOk names' l'.length := by
    rw [Bool.eq_iff_iff, namesOk_iff, namesOk_iff, hn.nodup_iff]
    constructor
    · rintro ⟨_, a, b⟩; exact ⟨h1', a, fun x hx => b x (hn.mem_iff.2 hx)⟩
    · rintro ⟨_, a, b⟩; exact ⟨h1, a, fun x hx => b x (hn.mem_iff.1 hx)⟩
  refine ⟨?_, by unfold objErr; rw [hok]⟩
  unfold objVal
  rw [← hok]
  cases hh : namesOk names l.length with
  | false => simp
  | true =>
    rw [if_pos rfl, if_pos rfl]
    congr 1
    rw [hok] at hh
    obtain ⟨_, b2, _⟩ := namesOk_iff.1 hh
    have hh' := hh
    rw [← hok] at hh'
    obtain ⟨_, a2, _⟩ := namesOk_iff.1 hh'
    exact srtP_unique hh (srtP_rise (by rw [List.map_fst_zip (by omega)]; exact a2)) fun x => by rw [mem_srtP]; exact hp.mem_iff

theorem obj_parts {n : Nd} {r : Vl} (h : Rt (n :: r)) (hk : n.kind = 6) : objVal (namesV (n :: r)) (partsV (n :: r)) = n :: r ∧ objErr (namesV (n :: r)) (partsV (n :: r)) = 0 := by
  obtain ⟨h1, h2, h3, h4⟩ := prs_ok h hk
  have hok : namesOk (namesV (n :: r)) (partsV (n :: r)).length = true := by
    rw [namesOk_iff, h3, h4]
    refine ⟨by simp, rise_nodup h1.rise, fun x hx => ?_⟩
    obtain ⟨z, hz, rfl⟩ := List.mem_map.1 hx
    exact h1.utf z hz
  have e : srtP ((namesV (n :: r)).zip (partsV (n :: r))) = prs (n :: r) := (srtP_unique hok h1.rise fun x => Iff.rfl).symm
  rw [objVal, objErr, if_pos hok, if_pos hok, e, h2]
  exact ⟨rfl, rfl⟩

/-! ### Depth -/

def dpt : Nat → Vl → Nat
  | f + 1, n :: r => if n.kind = 5 ∨ n.kind = 6 then ((partsOf n r).map (dpt f)).foldl max 0 + 1 else 0
  | _, _ => 0

def depthV (v : Vl) : Nat := dpt v.length v

theorem dpt_fuel : ∀ (f g : Nat) (v : Vl), v.length ≤ f → v.length ≤ g → Rt v → dpt f v = dpt g v
  | 0, _, v, h, _, hr => by have := hr.one.ne; cases v <;> simp at h this
  | f + 1, 0, v, _, h, hr => by have := hr.one.ne; cases v <;> simp at h this
  | f + 1, g + 1, [], _, _, _ => rfl
  | f + 1, g + 1, n :: r, h1, h2, hr => by
    have hp := partsOf_len hr
    simp only [List.length_cons] at h1 h2
    have e : (partsOf n r).map (dpt f) = (partsOf n r).map (dpt g) := List.map_congr_left fun x hx => dpt_fuel f g x (by have := (hp x hx).1; omega) (by have := (hp x hx).1; omega) (hp x hx).2
    simp only [dpt, e]

theorem depthV_eq {n : Nd} {r : Vl} (h : Rt (n :: r)) : depthV (n :: r) = if n.kind = 5 ∨ n.kind = 6 then ((partsV (n :: r)).map depthV).foldl max 0 + 1 else 0 := by
  have hp := partsOf_len h
  have e : (partsOf n r).map (dpt r.length) = (partsOf n r).map depthV := List.map_congr_left fun x hx => dpt_fuel _ _ x (hp x hx).1 (Nat.le_refl _) (hp x hx).2
  simp only [depthV, List.length_cons, dpt, e, partsV]

theorem foldl_max_ge : ∀ (l : List Nat) (a : Nat), a ≤ l.foldl max a ∧ ∀ x ∈ l, x ≤ l.foldl max a
  | [], a => ⟨Nat.le_refl _, fun x hx => by cases hx⟩
  | y :: l, a => by
    obtain ⟨h1, h2⟩ := foldl_max_ge l (max a y)
    refine ⟨by simp only [List.foldl_cons]; omega, fun x hx => ?_⟩
    simp only [List.foldl_cons]
    rcases List.mem_cons.1 hx with rfl | hx
    · omega
    · exact h2 x hx

theorem foldl_max_le : ∀ (l : List Nat) (a b : Nat), a ≤ b → (∀ x ∈ l, x ≤ b) → l.foldl max a ≤ b
  | [], a, b, h, _ => h
  | y :: l, a, b, h, hl => by
    simp only [List.foldl_cons]
    exact foldl_max_le l _ b (by have := hl y (by simp); omega) fun x hx => hl x (List.mem_cons_of_mem _ hx)

theorem dpt_le : ∀ (f : Nat) (v : Vl), v.length ≤ f → Rt v → depthV v ≤ v.length
  | 0, v, h, hr => by have := hr.one.ne; cases v <;> simp at h this
  | f + 1, [], _, hr => absurd rfl hr.one.ne
  | f + 1, n :: r, h, hr => by
    rw [depthV_eq hr]
    have hp := partsOf_len hr
    simp only [List.length_cons] at h ⊢
    split
    · have : ((partsV (n :: r)).map depthV).foldl max 0 ≤ r.length := foldl_max_le _ _ _ (Nat.zero_le _) fun x hx => by
        obtain ⟨p, hpm, rfl⟩ := List.mem_map.1 hx
        have h1 := hp p hpm
        have := dpt_le f p (by omega) h1.2
        omega
      omega
    · omega

theorem depthV_le {v : Vl} (h : Rt v) : depthV v ≤ v.length := dpt_le _ v (Nat.le_refl _) h

theorem numB_many0 {n : Nd} (h : plainB n = true) (hk : ¬ (n.kind = 5 ∨ n.kind = 6)) : n.many = 0 := by
  unfold plainB at h
  split at h
  · simp only [Bool.and_eq_true, beq_iff_eq] at h; exact h.1.1.1
  · split at h
    · exact numB_many h
    · split at h
      · simp only [Bool.and_eq_true, beq_iff_eq] at h; exact h.1.1.2
      · cases h

theorem partsV_none {n : Nd} {r : Vl} (h : Rt (n :: r)) (hk : ¬ (n.kind = 5 ∨ n.kind = 6)) : partsV (n :: r) = [] ∧ r = [] := by
  obtain ⟨h1, _, ps, h3, h4, _, _, _⟩ := h.parts
  have := numB_many0 h1 hk
  rw [this] at h3
  have h3' : parts 0 r = some ps := h3
  simp only [parts, Option.some.injEq] at h3'
  subst h3'
  refine ⟨by simp [partsV, (partsOf_eq (by rw [this]; exact h3)).1], by simpa using h4.symm⟩

theorem depth_part {v p : Vl} (h : Rt v) (hp : p ∈ partsV v) : depthV p < depthV v := by
  obtain ⟨n, r, rfl, _⟩ := nameOf_nil h.name h.one.ne
  by_cases hk : n.kind = 5 ∨ n.kind = 6
  · rw [depthV_eq h, if_pos hk]
    have := (foldl_max_ge ((partsV (n :: r)).map depthV) 0).2 (depthV p) (List.mem_map.2 ⟨p, hp, rfl⟩)
    omega
  · rw [(partsV_none h hk).1] at hp; cases hp

theorem partsV_rt {v p : Vl} (h : Rt v) (hp : p ∈ partsV v) : Rt p ∧ p.length < v.length := by
  obtain ⟨n, r, rfl, _⟩ := nameOf_nil h.name h.one.ne
  have := partsOf_len h p hp
  exact ⟨this.2, by simp only [List.length_cons]; omega⟩

end Lp

/-! LpV7 -/

namespace Lp
open Go

structure Opn where
  kind : Int
  left : Int
  first : Bool
  last : List UInt8

def nameOkO (o : Opn) (nm : List UInt8) : Bool := if o.kind = 6 then utf nm && (o.first || Op.bytesLess o.last nm) else nm == []

/-- The stack's run: its top first. -/
def runR (L : Int) : List Opn → Vl → Bool
  | s, [] => !s.any fun o => decide (0 < o.left)
  | s, n :: r => match s.dropWhile (fun o => o.left == 0) with
    | [] => false
    | o :: t => plainB n && decide (n.many ≤ L) && nameOkO o n.name && runR L (⟨n.kind, n.many, true, []⟩ :: ⟨o.kind, o.left - 1, false, n.name⟩ :: t) r

def risF (o : Opn) : List Vl → Bool
  | [] => true
  | p :: ps => nameOkO o (nameOf p) && risF { o with first := false, last := nameOf p } ps

def Fit (L : Int) : List Opn → Vl → Prop
  | [], v => v = []
  | o :: t, v => ∃ (ps : List Vl) (w : Vl), v = ps.flatten ++ w ∧ (ps.length : Int) = o.left ∧ (∀ p ∈ ps, One p ∧ Good p ∧ ∀ n ∈ p, n.many ≤ L) ∧ risF o ps = true ∧ Fit L t w

theorem risF_left (o : Opn) (k : Int) : ∀ ps : List Vl, risF { o with left := k } ps = risF o ps
  | [] => rfl
  | p :: ps => by
    simp only [risF]
    rw [risF_left { o with first := false, last := nameOf p } k ps]; rfl

theorem risF6 : ∀ (o : Opn) (ps : List Vl), o.kind = 6 → (risF o ps = true ↔ (∀ p ∈ ps, utf (nameOf p) = true) ∧ Rise (ps.map nameOf) ∧ (o.first = false → ∀ p ∈ ps, Op.bytesLess o.last (nameOf p) = true))
  | o, [], _ => by simp [risF, Rise]
  | o, p :: ps, hk => by
    have ih := risF6 { o with first := false, last := nameOf p } ps hk
    have e : risF o (p :: ps) = ((utf (nameOf p) && (o.first || Op.bytesLess o.last (nameOf p))) && risF { o with first := false, last := nameOf p } ps) := by
      simp only [risF, nameOkO, hk, if_true]
    rw [e, Bool.and_eq_true, Bool.and_eq_true, Bool.or_eq_true, ih]
    simp only [forall_const]
    constructor
    · rintro ⟨⟨h1, h2⟩, h3, h4, h5⟩
      refine ⟨fun x hx => ?_, ?_, fun hf x hx => ?_⟩
      · rcases List.mem_cons.1 hx with rfl | hx
        · exact h1
        · exact h3 x hx
      · rw [List.map_cons]
        refine List.pairwise_cons.2 ⟨fun x hx => ?_, h4⟩
        obtain ⟨q, hq, rfl⟩ := List.mem_map.1 hx
        exact h5 q hq
      · have h2' := h2.resolve_left (by rw [hf]; simp)
        rcases List.mem_cons.1 hx with rfl | hx
        · exact h2'
        · exact bl_trans _ _ _ h2' (h5 x hx)
    · rintro ⟨h1, h2, h3⟩
      rw [List.map_cons] at h2
      obtain ⟨h4, h5⟩ := List.pairwise_cons.1 h2
      refine ⟨⟨h1 p (by simp), ?_⟩, fun x hx => h1 x (List.mem_cons_of_mem _ hx), h5, fun x hx => h4 _ (List.mem_map.2 ⟨x, hx, rfl⟩)⟩
      cases hf : o.first with
      | true => exact .inl rfl
      | false => exact .inr (h3 hf p (by simp))

theorem risF_other : ∀ (o : Opn) (ps : List Vl), o.kind ≠ 6 → (risF o ps = true ↔ ∀ p ∈ ps, nameOf p = [])
  | o, [], _ => by simp [risF]
  | o, p :: ps, hk => by
    have ih := risF_other { o with first := false, last := nameOf p } ps hk
    have e : risF o (p :: ps) = ((nameOf p == []) && risF { o with first := false, last := nameOf p } ps) := by
      simp only [risF, nameOkO, hk, if_false]
    rw [e, Bool.and_eq_true, ih]
    simp

/-- A node's parts: what is asked of their names. -/
theorem risF_risB {n : Nd} {ps : List Vl} (hp : plainB n = true) (hl : n.many = ps.length) (m : Int) : risF ⟨n.kind, m, true, []⟩ ps = risB n.kind ps := by
  rw [Bool.eq_iff_iff]
  by_cases h6 : n.kind = 6
  · rw [risF6 _ _ h6, h6, risB6]; simp
  by_cases h5 : n.kind = 5
  · rw [risF_other _ _ h6, h5]
    refine ⟨risB5 ps, fun h => ?_⟩
    have := risB_arr ps h
    intro p hp
    obtain ⟨i, hi, rfl⟩ := List.mem_iff_getElem.1 hp
    have := congrArg (fun l => l[i]?) this
    simpa [hi] using this
  · have := numB_many0 hp (by omega)
    have : ps = [] := List.eq_nil_of_length_eq_zero (by omega)
    subst this
    simp [risF, risB]

theorem fit_zero {L : Int} {o : Opn} {t : List Opn} {v : Vl} (h : o.left = 0) : Fit L (o :: t) v ↔ Fit L t v := by
  constructor
  · rintro ⟨ps, w, rfl, hl, _, _, hw⟩
    have : ps = [] := List.eq_nil_of_length_eq_zero (by omega)
    subst this
    simpa using hw
  · intro hw
    exact ⟨[], v, by simp, by simp [h], by simp, rfl, hw⟩

theorem fit_drop {L : Int} {v : Vl} : ∀ s : List Opn, Fit L s v ↔ Fit L (s.dropWhile fun o => o.left == 0) v
  | [] => Iff.rfl
  | o :: t => by
    by_cases h : o.left = 0
    · rw [List.dropWhile_cons_of_pos (by simpa using h), ← fit_drop t, fit_zero h]
    · rw [List.dropWhile_cons_of_neg (by simpa using h)]

theorem fit_nil {L : Int} : ∀ s : List Opn, (∀ o ∈ s, 0 ≤ o.left) → (Fit L s [] ↔ ∀ o ∈ s, o.left = 0)
  | [], _ => by simp [Fit]
  | o :: t, h => by
    have ih := fit_nil (L := L) t fun x hx => h x (List.mem_cons_of_mem _ hx)
    constructor
    · rintro ⟨ps, w, he, hl, hp, _, hw⟩
      have he' := he.symm
      rw [List.append_eq_nil_iff] at he'
      obtain ⟨e1, rfl⟩ := he'
      have hps : ps = [] := by
        cases ps with
        | nil => rfl
        | cons p ps =>
          rw [List.flatten_cons, List.append_eq_nil_iff] at e1
          exact absurd e1.1 (hp p (by simp)).1.ne
      subst hps
      intro x hx
      rcases List.mem_cons.1 hx with rfl | hx
      · simpa using hl.symm
      · exact ih.1 hw x hx
    · intro hz
      rw [fit_zero (hz o (by simp)), ih]
      exact fun x hx => hz x (List.mem_cons_of_mem _ hx)

theorem fit_step {L : Int} {o : Opn} {t : List Opn} {n : Nd} {r : Vl} (h0 : 0 ≤ o.left) (h1 : o.left ≠ 0) :
    Fit L (o :: t) (n :: r) ↔ plainB n = true ∧ n.many ≤ L ∧ nameOkO o n.name = true ∧ Fit L (⟨n.kind, n.many, true, []⟩ :: ⟨o.kind, o.left - 1, false, n.name⟩ :: t) r := by
  constructor
  · rintro ⟨ps, w, he, hl, hp, hr, hw⟩
    cases ps with
    | nil => simp only [List.length_nil] at hl; omega
    | cons p ps =>
      obtain ⟨ho, hg, hm⟩ := hp p (by simp)
      cases p with
      | nil => exact absurd rfl ho.ne
      | cons n' q =>
        simp only [List.flatten_cons, List.cons_append, List.cons.injEq] at he
        obtain ⟨rfl, rfl⟩ := he
        obtain ⟨hm0, qs, hq, hqf, hqo⟩ := ho.parts
        obtain ⟨hpl, qs', hq', hrb⟩ := hg 0 n q rfl
        rw [hq] at hq'
        cases hq'
        have hql := parts_len _ _ _ hq
        have hgq : Good qs.flatten := by rw [hqf]; exact (show Good ([n] ++ q) from hg).suf
        simp only [risF, Bool.and_eq_true] at hr
        refine ⟨hpl, hm n (by simp), hr.1, qs, ps.flatten ++ w, by rw [hqf, List.append_assoc], by show (qs.length : Int) = n.many; omega, fun x hx => ⟨hqo x hx, Good.of_flatten qs hqo hgq x hx, fun y hy => hm y ?_⟩, ?_, ps, w, rfl, ?_, fun x hx => hp x (List.mem_cons_of_mem _ hx), ?_, hw⟩
        · rw [← hqf]
          exact List.mem_cons_of_mem _ (List.mem_flatten.2 ⟨x, hx, hy⟩)
        · rw [risF_risB hpl (by omega)]; exact hrb
        · show (ps.length : Int) = o.left - 1
          simp only [List.length_cons] at hl; omega
        · have := hr.2
          rw [← risF_left _ (o.left - 1)] at this
          exact this
  · rintro ⟨hpl, hm, hn, qs, w1, rfl, hql, hqp, hqr, ps, w, rfl, hl, hp, hr, hw⟩
    have hrb : risB n.kind qs = true := by rw [← risF_risB hpl (by simp only at hql; omega)]; exact hqr
    refine ⟨(n :: qs.flatten) :: ps, w, by simp, ?_, fun x hx => ?_, ?_, hw⟩
    · simp only [List.length_cons] at hl ⊢; omega
    · rcases List.mem_cons.1 hx with rfl | hx
      · refine ⟨One.made (by simp only at hql; omega) fun p hp => (hqp p hp).1, Good.made hpl (by simp only at hql; omega) hrb fun p hp => ⟨(hqp p hp).1, (hqp p hp).2.1⟩, fun y hy => ?_⟩
        rcases List.mem_cons.1 hy with rfl | hy
        · exact hm
        · obtain ⟨q, hq, hyq⟩ := List.mem_flatten.1 hy
          exact (hqp q hq).2.2 y hyq
      · exact hp x hx
    · simp only [risF, Bool.and_eq_true]
      refine ⟨hn, ?_⟩
      have := hr
      rw [← risF_left _ o.left] at this
      exact this

theorem runR_fit (L : Int) : ∀ (v : Vl) (s : List Opn), (∀ o ∈ s, 0 ≤ o.left) → (runR L s v = true ↔ Fit L s v)
  | [], s, h => by
    rw [fit_nil s h]
    simp only [runR, Bool.not_eq_true', List.any_eq_false, decide_eq_true_eq]
    constructor
    · intro g o ho
      have := g o ho
      have := h o ho
      omega
    · intro g o ho
      have := g o ho
      omega
  | n :: r, s, h => by
    rw [fit_drop s]
    have hd : ∀ o ∈ s.dropWhile (fun o => o.left == 0), 0 ≤ o.left := fun o ho => h o ((List.dropWhile_sublist _).subset ho)
    have hh : ∀ o t, s.dropWhile (fun o => o.left == 0) = o :: t → o.left ≠ 0 := fun o t e => by
      have := List.head?_dropWhile_not (fun o : Opn => o.left == 0) s
      rw [e] at this
      simpa using this
    rw [runR]
    generalize s.dropWhile (fun o => o.left == 0) = s' at hd hh
    cases s' with
    | nil => simp [Fit]
    | cons o t =>
      simp only
      have h0 := hd o (by simp)
      have h1 := hh o t rfl
      rw [fit_step h0 h1]
      simp only [Bool.and_eq_true, decide_eq_true_eq, and_assoc]
      constructor
      · rintro ⟨g1, g2, g3, g4⟩
        refine ⟨g1, g2, g3, (runR_fit L r _ ?_).1 g4⟩
        have hm : 0 ≤ n.many := by
          by_cases hk : n.kind = 5 ∨ n.kind = 6
          · exact (plain_arr g1 hk).1
          · rw [numB_many0 g1 hk]; exact Int.le_refl 0
        intro x hx
        rcases List.mem_cons.1 hx with rfl | hx
        · exact hm
        · rcases List.mem_cons.1 hx with rfl | hx
          · simp only; omega
          · exact hd x (List.mem_cons_of_mem _ hx)
      · rintro ⟨g1, g2, g3, g4⟩
        refine ⟨g1, g2, g3, (runR_fit L r _ ?_).2 g4⟩
        have hm : 0 ≤ n.many := by
          by_cases hk : n.kind = 5 ∨ n.kind = 6
          · exact (plain_arr g1 hk).1
          · rw [numB_many0 g1 hk]; exact Int.le_refl 0
        intro x hx
        rcases List.mem_cons.1 hx with rfl | hx
        · exact hm
        · rcases List.mem_cons.1 hx with rfl | hx
          · simp only; omega
          · exact hd x (List.mem_cons_of_mem _ hx)

theorem One.many_le {v : Vl} (h : One v) : ∀ n ∈ v, n.many ≤ (v.length : Int) := by
  intro n hn
  obtain ⟨i, hi, rfl⟩ := List.mem_iff_getElem.1 hn
  obtain ⟨h0, ps, hp⟩ := h.partsAt hi
  have := parts_le _ _ _ hp
  simp only [List.length_drop] at this
  omega

theorem runR_right (v : Vl) : runR v.length [⟨5, 1, false, []⟩] v = rightB v := by
  rw [Bool.eq_iff_iff, runR_fit _ _ _ (by simp), rightB_iff]
  constructor
  · rintro ⟨ps, w, rfl, hl, hp, hr, hw⟩
    simp only [Fit] at hw
    subst hw
    match ps, hl with
    | [p], _ =>
      obtain ⟨h1, h2, _⟩ := hp p (by simp)
      rw [risF_other _ _ (by decide)] at hr
      simp only [List.flatten_cons, List.flatten_nil, List.append_nil]
      exact ⟨h1, hr p (by simp), h2⟩
    | [], hl => simp at hl
    | _ :: _ :: _, hl => simp at hl; omega
  · intro h
    refine ⟨[v], [], by simp, by simp, fun p hp => ?_, ?_, rfl⟩
    · simp only [List.mem_singleton] at hp
      subst hp
      exact ⟨h.one, h.good, h.one.many_le⟩
    · rw [risF_other _ _ (by decide)]
      simp [h.name]

end Lp

/-! LpV8 -/

namespace Lp
open Go

structure Atm where
  n : Int
  c : Nd
  deriving DecidableEq

/-- A node of a value without parts, right, without name. -/
def scalB (n : Nd) : Bool := decide (n.kind < 5) && rightB [n]

def rightA (a : Atm) : Bool := decide (0 ≤ a.n) && decide (a.n ≤ 5) && scalB a.c

def saysI (how c : Int) : Bool :=
  if how = 0 then decide (c = 0) else if how = 1 then !decide (c = 0) else if how = 2 then decide (c < 0) else if how = 3 then decide (c ≤ 0) else if how = 4 then decide (0 < c) else decide (0 ≤ c)

def holdsA (a : Atm) (n : Nd) : Bool := saysI a.n (cmpV 1 [n] [a.c])

def letsB (mask kind : Int) : Bool := (mask.toNat / 2 ^ kind.toNat) % 2 == 1

def memberA (mask : Int) (l : List Atm) (n : Nd) : Bool := scalB n && letsB mask n.kind && l.all fun a => holdsA a n

def turnI (how : Int) : Int := if how = 0 then 1 else if how = 1 then 0 else if how = 2 then 5 else if how = 3 then 4 else if how = 4 then 3 else if how = 5 then 2 else 0

theorem scalB_plain {n : Nd} (h : scalB n = true) : plainB n = true ∧ n.name = [] ∧ 0 ≤ n.kind ∧ n.kind < 5 ∧ Rt [n] := by
  simp only [scalB, Bool.and_eq_true, decide_eq_true_eq] at h
  have hr := rightB_rt h.2
  obtain ⟨h1, _, _⟩ := hr.parts
  refine ⟨h1, hr.name, ?_, h.1, hr⟩
  unfold plainB at h1
  rcases Int.lt_or_le n.kind 0 with hk | hk
  · rw [if_neg (by omega), if_neg (by omega), if_neg (by omega), if_neg (by omega)] at h1; cases h1
  · exact hk

theorem turn_says (how c : Int) (h0 : 0 ≤ how) (h5 : how ≤ 5) : saysI (turnI how) c = !saysI how c := by
  have : how = 0 ∨ how = 1 ∨ how = 2 ∨ how = 3 ∨ how = 4 ∨ how = 5 := by omega
  have key : ∀ p q : Prop, [Decidable p] → [Decidable q] → (p ↔ ¬ q) → decide p = !decide q := by
    intro p q _ _ h
    by_cases hq : q
    · simp [hq, h]
    · simp [hq, h]
  rcases this with rfl | rfl | rfl | rfl | rfl | rfl <;> simp [saysI, turnI] <;> exact key _ _ (by omega)

theorem turn_turn (how : Int) (h0 : 0 ≤ how) (h5 : how ≤ 5) : turnI (turnI how) = how := by
  have : how = 0 ∨ how = 1 ∨ how = 2 ∨ how = 3 ∨ how = 4 ∨ how = 5 := by omega
  rcases this with rfl | rfl | rfl | rfl | rfl | rfl <;> rfl

theorem turn_rng (how : Int) (h0 : 0 ≤ how) (h5 : how ≤ 5) : 0 ≤ turnI how ∧ turnI how ≤ 5 := by
  have : how = 0 ∨ how = 1 ∨ how = 2 ∨ how = 3 ∨ how = 4 ∨ how = 5 := by omega
  rcases this with rfl | rfl | rfl | rfl | rfl | rfl <;> decide

end Lp

/-! LpV9 -/

namespace Lp
open Go Go.Lib

def zeroN : Nd := ⟨0, 0, [], [], false, 0⟩

def isPow (many e : Int) : Bool := decide (-1000 ≤ e) && decide (e ≤ 1000) && decide (many + e ≤ 1000)

/-- A number of figures and a power; an error's number. -/
def makeN (neg : Bool) (f : List UInt8) (e : Int) : Nd × Int :=
  if figs f = false then (zeroN, 4)
  else if trimLeftB f 48 = [] then (⟨3, 0, [], [], false, 0⟩, 0)
  else if e < -100000000 ∨ 100000000 < e then (zeroN, 2)
  else if 100 < (trimRightB (trimLeftB f 48) 48).length ∨ isPow (trimRightB (trimLeftB f 48) 48).length (e + ((trimLeftB f 48).length - (trimRightB (trimLeftB f 48) 48).length)) = false then (zeroN, 2)
  else (⟨3, 0, [], trimRightB (trimLeftB f 48) 48, neg, e + ((trimLeftB f 48).length - (trimRightB (trimLeftB f 48) 48).length)⟩, 0)

def upS (s : List UInt8) : List UInt8 :=
  if (trimRightB s 57).length = 0 then 49 :: List.replicate s.length 48
  else s.take ((trimRightB s 57).length - 1) ++ (s.getD ((trimRightB s 57).length - 1) 0 + 1) :: List.replicate (s.length - (trimRightB s 57).length) 48

def downS (s : List UInt8) : List UInt8 :=
  s.take ((trimRightB s 48).length - 1) ++ (s.getD ((trimRightB s 48).length - 1) 0 - 1) :: List.replicate (s.length - (trimRightB s 48).length) 57

/-- Of how fine a figure a step is. -/
def fineE (n : Nd) (above : Bool) : Int := max ((if n.neg = above ∧ n.s = [49] then n.s.length + n.e - 1 else n.s.length + n.e) - 100) (-1000)

def padS (n : Nd) (e : Int) : List UInt8 := n.s ++ List.replicate (n.e - e).toNat 48

def besideN (n : Nd) (above : Bool) : Nd × Bool :=
  if n.s = [] then (⟨3, 0, [], [49], !above, -1000⟩, true)
  else ((makeN n.neg ((if n.neg = above then downS else upS) (padS n (fineE n above))) (fineE n above)).1,
        decide ((makeN n.neg ((if n.neg = above then downS else upS) (padS n (fineE n above))) (fineE n above)).2 = 0))

/-- The candidates of atoms: of the numbers; of the texts. -/
def candN : List Atm → List Nd
  | [] => []
  | a :: l => (if a.c.kind = 3 then a.c :: ((if (besideN a.c true).2 then [(besideN a.c true).1] else []) ++ if (besideN a.c false).2 then [(besideN a.c false).1] else []) else []) ++ candN l

def candS : List Atm → List Nd
  | [] => []
  | a :: l => (if a.c.kind = 4 then [a.c, ⟨4, 0, [], a.c.s ++ [0], false, 0⟩] else []) ++ candS l

def candA (l : List Atm) : List Nd := [⟨0, 0, [], [], false, 0⟩, ⟨1, 0, [], [], false, 0⟩, ⟨2, 0, [], [], false, 0⟩, ⟨3, 0, [], [], false, 0⟩] ++ candN l ++ ⟨4, 0, [], [], false, 0⟩ :: candS l

def leastA (mask : Int) (l : List Atm) : Nd × Bool :=
  match (candA l).find? fun n => memberA mask l n with
  | some n => (n, true)
  | none => (zeroN, false)

end Lp

/-! LpW30 -/

namespace Lp
open Go Go.Proofs

set_option maxHeartbeats 4000000
set_option maxRecDepth 20000
set_option linter.unusedSimpArgs false


theorem zNa : (PV.ofV (Value.agg { toList := [Value.int IntKind.i64 0, Value.int IntKind.i64 0, Value.string { data := { toList := [] } }, Value.string { data := { toList := [] } }, Value.bool false, Value.int IntKind.i64 0] })).isAgg = true := rfl
theorem zNp (n : Nd) : (PV.ofV (Value.agg { toList := [Value.int IntKind.i64 0, Value.int IntKind.i64 0, Value.string { data := { toList := [] } }, Value.string { data := { toList := [] } }, Value.bool false, Value.int IntKind.i64 0] })).putCells 0 [.int .i64 n.kind, .int .i64 n.many, .str n.name, .str n.s, .bool n.neg, .int .i64 n.e] = encN n := rfl
theorem nmP (n : Nd) (nm : List UInt8) : (encN n).putCells 2 [.str nm] = encN { n with name := nm } := rfl
theorem enc6 (n : Nd) : (encN n).cells.length = 6 := rfl
theorem enc6s (n : Nd) : (encN n).cells.all PV.storable = true := rfl
theorem enc6a (n : Nd) : (encN n).isAgg = true := rfl
theorem enc6c (n : Nd) : ((encN n).cells.all fun c => !c.isAgg) = true := rfl
theorem enc6t (n : Nd) : PV.agg (List.take 6 (encN n).cells) = encN n := rfl

theorem listV_take (l : List Vl) {i : Nat} {v : Vl} (h : l[i]? = some v) : (l.take (i + 1)).flatten = (l.take i).flatten ++ v := by
  rw [List.take_add_one, h]; simp

theorem flat_take (l : List Vl) {i : Nat} {v : Vl} (h : l[i]? = some v) : (l.take i).flatten.length + v.length ≤ l.flatten.length := by
  have e : l.flatten.length = ((l.take (i + 1)).flatten ++ (l.drop (i + 1)).flatten).length := by rw [← List.flatten_append, List.take_append_drop]
  rw [e, List.take_add_one, h]; simp

/-- A node of zeros. -/
theorem zNl : (PV.ofV (Value.agg { toList := [Value.int IntKind.i64 0, Value.int IntKind.i64 0, Value.string { data := { toList := [] } }, Value.string { data := { toList := [] } }, Value.bool false, Value.int IntKind.i64 0] })).cells.length = 6 := rfl
theorem zNs : (PV.ofV (Value.agg { toList := [Value.int IntKind.i64 0, Value.int IntKind.i64 0, Value.string { data := { toList := [] } }, Value.string { data := { toList := [] } }, Value.bool false, Value.int IntKind.i64 0] })).cells.all PV.storable = true := rfl

theorem map_frzNI (n : Nat) (objs : List Obj) (v : Vl) : (v.map encN).map (PV.mapCells (frzI 0 n objs)) = v.map encN := by
  rw [List.map_map]
  exact List.map_congr_left fun x _ => rfl

theorem nodes_frz (v : Vl) (ver : Nat) (t : TypeId) (rest : List Obj) : frz 1 0 (⟨t, 6, v.map encN, true, ver⟩ :: rest) (.osl 0 ver) = encV v := by
  simp only [frz, Nat.not_lt_zero, if_false, frzI, List.getElem?_cons_zero, Nat.le_refl, decide_true, Bool.true_and, beq_self_eq_true, if_true, map_frzNI]
  rfl

theorem list_spec (l : List Vl) (hl : l.length ≤ 1000000) (hb : l.flatten.length ≤ 1000000) : FnSpec Tryd.prog f_louperef02_List [encL l] [] (encV (listV l)) [] := by
  refine k_louperef02_List.pureG (T := tabL Tryd.prog []) 1 hD (kOk_tabL tabOk_nil) hmix (by decide) fun Q hQ => ?_
  try simp only [F_all]
  simp (maxSteps := 400000) only [↓preZ, postZ, coreZ, ↓preU, postU, D_all, F_all, unR, outL, onePV, binS, ↓binS, boundR, ↓boundR, fieldOf, ↓fieldOf, boxR, allocR, newObj, zeroElem, buildSliceR, appendR, setAll, storeR, St.freeze, makeSliceR, minmaxR, makeFuncR, BEq.rfl, reduceIte, reduceCtorEq, Nat.reduceLT, Nat.reduceAdd, Nat.reduceSub, Nat.reduceMul, Nat.reduceBEq, Nat.reduceLeDiff, Int.reduceToNat, Int.reduceLE, hQ, c_louperef02_List, zNl, zNs]
  refine wpc_loop (fun m S => ∃ i ver : Nat, i + m = l.length ∧ S = ⟨tmA 22 [(0, encL l), (3, .osl 0 ver), (4, .int .i64 i)], [⟨t_api_Node, 6, (((⟨5, l.length, [], [], false, 0⟩ : Nd) :: (l.take i).flatten).map encN), true, ver⟩]⟩) l.length ⟨0, 1, by omega, ?_⟩ ?_
  · simp only [normR, keepR, Nat.reduceAdd, lkR, Nat.reduceBEq, F_all, List.map_nil]
    rfl
  rintro m S ⟨i, ver, him, rfl⟩
  rcases Nat.lt_or_ge i l.length with h | h
  rotate_left 1
  · have hlt : ((i : Int) < (l.length : Int)) = False := eq_false (by omega)
    simp (maxSteps := 400000) only [↓preZ, postZ, coreZ, ↓preU, postU, D_all, F_all, unR, outL, onePV, binS, ↓binS, boundR, ↓boundR, fieldOf, ↓fieldOf, boxR, allocR, newObj, zeroElem, buildSliceR, appendR, setAll, storeR, St.freeze, makeSliceR, minmaxR, makeFuncR, BEq.rfl, reduceIte, reduceCtorEq, Nat.reduceLT, Nat.reduceAdd, Nat.reduceSub, Nat.reduceMul, Nat.reduceBEq, Nat.reduceLeDiff, Int.reduceToNat, Int.reduceLE, hQ, hlt]
    rw [List.take_of_length_le h]
    exact (nodes_frz (listV l) ver t_api_Node []).symm
  have hlt : ((i : Int) < (l.length : Int)) = True := eq_true (by omega)
  have hgi := List.getElem?_eq_getElem h
  generalize l[i] = v at hgi
  have hs := listV_take l hgi
  have hf := flat_take l hgi
  have zi : (0 ≤ (i : Int)) = True := eq_true (by omega)
  simp (maxSteps := 400000) only [↓preZ, postZ, coreZ, ↓preU, postU, D_all, F_all, unR, outL, onePV, binS, ↓binS, boundR, ↓boundR, fieldOf, ↓fieldOf, boxR, allocR, newObj, zeroElem, buildSliceR, appendR, setAll, storeR, St.freeze, makeSliceR, minmaxR, makeFuncR, BEq.rfl, reduceIte, reduceCtorEq, Nat.reduceLT, Nat.reduceAdd, Nat.reduceSub, Nat.reduceMul, Nat.reduceBEq, Nat.reduceLeDiff, Int.reduceToNat, Int.reduceLE, hQ, hlt, zi, hgi, zNl, zNs]
  refine ⟨by omega, by omega, ⟨by omega, by omega⟩, m - 1, by omega, i + 1, ver + 1, by omega, ?_⟩
  rw [hs]
  rfl

def ctrList : Ctr := fun args objs K => match args with
  | [a0] => ofE encL a0 (HK.mk : HK fun l => (l.length ≤ 1000000) ∧ (l.flatten.length ≤ 1000000) ∧ K (encV (listV l)) objs 0)
  | _ => False
theorem ctrList_ok : CtrOk Tryd.prog f_louperef02_List (ctrList) := by
  intro args objs K h
  unfold ctrList at h
  split at h
  · rename_i a0
    obtain ⟨l, rfl, h1, h2, hk⟩ := h
    exact ⟨_, _, _, .pure _ rfl (list_spec l h1 h2), hk⟩
  · exact h.elim
end Lp

/-! LpD1 -/

namespace Lp
open Go Go.Proofs

set_option maxHeartbeats 4000000
set_option maxRecDepth 20000
set_option linter.unusedSimpArgs false

theorem lists_spec (a b : List Vl) (ha : a.length ≤ 1000000) (hb : b.length ≤ 1000000) (ha' : ∀ v ∈ a, v.length ≤ 1000000) (hb' : ∀ v ∈ b, v.length ≤ 1000000) : FnSpec Tryd.prog f_louperef02_Lists [encL a, encL b] [] (.bool (decide (a = b))) [] := by
  refine k_louperef02_Lists.pureG (T := tabL Tryd.prog [(f_louperef02_Same, ctrSame)]) 0 hD (kOk_tabL (tabOk_cons ctrSame_ok tabOk_nil)) hmix (by decide) fun Q hQ => ?_
  try simp only [F_all]
  by_cases hl : a.length = b.length
  rotate_left 1
  · have hl' : ((a.length : Int) = (b.length : Int)) = False := eq_false (by omega)
    have hr : decide (a = b) = false := decide_eq_false fun h => hl (by rw [h])
    simp (maxSteps := 400000) only [↓preZ, postZ, coreZ, ↓preU, postU, D_all, F_all, unR, outL, onePV, binS, ↓binS, boundR, ↓boundR, fieldOf, ↓fieldOf, boxR, allocR, newObj, zeroElem, buildSliceR, appendR, setAll, storeR, St.freeze, makeSliceR, minmaxR, makeFuncR, BEq.rfl, reduceIte, reduceCtorEq, Nat.reduceLT, Nat.reduceAdd, Nat.reduceSub, Nat.reduceMul, Nat.reduceBEq, Nat.reduceLeDiff, Int.reduceToNat, Int.reduceLE, hQ, c_louperef02_Lists, hl', hr]
  have hl' : ((a.length : Int) = (b.length : Int)) = True := eq_true (by omega)
  simp (maxSteps := 400000) only [↓preZ, postZ, coreZ, ↓preU, postU, D_all, F_all, unR, outL, onePV, binS, ↓binS, boundR, ↓boundR, fieldOf, ↓fieldOf, boxR, allocR, newObj, zeroElem, buildSliceR, appendR, setAll, storeR, St.freeze, makeSliceR, minmaxR, makeFuncR, BEq.rfl, reduceIte, reduceCtorEq, Nat.reduceLT, Nat.reduceAdd, Nat.reduceSub, Nat.reduceMul, Nat.reduceBEq, Nat.reduceLeDiff, Int.reduceToNat, Int.reduceLE, hQ, c_louperef02_Lists, hl']
  refine wpc_loop (fun m S => ∃ i : Nat, i + m = a.length ∧ (∀ j, j < i → a[j]? = b[j]?) ∧ S = ⟨tmA 27 [(0, encL a), (1, encL b), (5, .int .i64 i)], []⟩) a.length ⟨0, by omega, fun j h => absurd h (by omega), ?_⟩ ?_
  · simp only [normR, keepR, Nat.reduceAdd, lkR, Nat.reduceBEq, F_all, List.map_nil]
    rfl
  rintro m S ⟨i, him, hj, rfl⟩
  have zi : (0 ≤ (i : Int)) = True := eq_true (by omega)
  rcases Nat.lt_or_ge i a.length with h | h
  rotate_left 1
  · have hlt : ((i : Int) < (a.length : Int)) = False := eq_false (by omega)
    have hab : a = b := List.ext_getElem? fun j => by
      by_cases hji : j < i
      · exact hj j hji
      · rw [List.getElem?_eq_none (by omega), List.getElem?_eq_none (by omega)]
    have hr : decide (a = b) = true := decide_eq_true hab
    simp (maxSteps := 400000) only [↓preZ, postZ, coreZ, ↓preU, postU, D_all, F_all, unR, outL, onePV, binS, ↓binS, boundR, ↓boundR, fieldOf, ↓fieldOf, boxR, allocR, newObj, zeroElem, buildSliceR, appendR, setAll, storeR, St.freeze, makeSliceR, minmaxR, makeFuncR, BEq.rfl, reduceIte, reduceCtorEq, Nat.reduceLT, Nat.reduceAdd, Nat.reduceSub, Nat.reduceMul, Nat.reduceBEq, Nat.reduceLeDiff, Int.reduceToNat, Int.reduceLE, hQ, hlt, hr]
  have hlt : ((i : Int) < (a.length : Int)) = True := eq_true (by omega)
  have ga := List.getElem?_eq_getElem h
  have gb : b[i]? = some (b[i]'(by omega)) := List.getElem?_eq_getElem (by omega)
  have la := ha' _ (List.getElem_mem h)
  have lb := hb' _ (List.getElem_mem (by omega : i < b.length))
  generalize a[i] = x at ga la
  generalize b[i]'(by omega) = y at gb lb
  by_cases hxy : x = y
  · have hxy' : (x = y) = True := eq_true hxy
    simp (maxSteps := 400000) only [↓preZ, postZ, coreZ, ↓preU, postU, D_all, F_all, unR, outL, onePV, binS, ↓binS, boundR, ↓boundR, fieldOf, ↓fieldOf, boxR, allocR, newObj, zeroElem, buildSliceR, appendR, setAll, storeR, St.freeze, makeSliceR, minmaxR, makeFuncR, BEq.rfl, reduceIte, reduceCtorEq, Nat.reduceLT, Nat.reduceAdd, Nat.reduceSub, Nat.reduceMul, Nat.reduceBEq, Nat.reduceLeDiff, Int.reduceToNat, Int.reduceLE, hQ, hlt, zi, ga, gb, ↓ctrSame, hxy']
    refine ⟨la, lb, ⟨by omega, by omega⟩, m - 1, by omega, i + 1, by omega, ?_, by simp⟩
    intro j hji
    by_cases hjj : j = i
    · subst hjj; rw [ga, gb, hxy]
    · exact hj j (by omega)
  · have hxy' : (x = y) = False := eq_false hxy
    have hr : decide (a = b) = false := decide_eq_false fun h => hxy (by rw [h, gb] at ga; exact (Option.some.inj ga).symm)
    simp (maxSteps := 400000) only [↓preZ, postZ, coreZ, ↓preU, postU, D_all, F_all, unR, outL, onePV, binS, ↓binS, boundR, ↓boundR, fieldOf, ↓fieldOf, boxR, allocR, newObj, zeroElem, buildSliceR, appendR, setAll, storeR, St.freeze, makeSliceR, minmaxR, makeFuncR, BEq.rfl, reduceIte, reduceCtorEq, Nat.reduceLT, Nat.reduceAdd, Nat.reduceSub, Nat.reduceMul, Nat.reduceBEq, Nat.reduceLeDiff, Int.reduceToNat, Int.reduceLE, hQ, hlt, zi, ga, gb, ↓ctrSame, hxy', hr]
    exact ⟨la, lb⟩

def ctrLists : Ctr := fun args objs K => match args with
  | [a0, a1] => ofE encL a0 (HK.mk : HK fun a => ofE encL a1 (HK.mk : HK fun b => (a.length ≤ 1000000) ∧ (b.length ≤ 1000000) ∧ (∀ v ∈ a, v.length ≤ 1000000) ∧ (∀ v ∈ b, v.length ≤ 1000000) ∧ K (.bool (decide (a = b))) objs 0))
  | _ => False
theorem ctrLists_ok : CtrOk Tryd.prog f_louperef02_Lists (ctrLists) := by
  intro args objs K h
  unfold ctrLists at h
  split at h
  · rename_i a0 a1
    obtain ⟨a, rfl, b, rfl, h1, h2, h3, h4, hk⟩ := h
    exact ⟨_, _, _, .pure _ rfl (lists_spec a b h1 h2 h3 h4), hk⟩
  · exact h.elim

theorem foldl_take {l : List Nat} {i : Nat} {x : Nat} (h : l[i]? = some x) : (l.take (i + 1)).foldl max 0 = max ((l.take i).foldl max 0) x := by
  rw [List.take_add_one, h, List.foldl_append]; rfl

theorem maxI (a b : Nat) : (if ((b : Int) > (a : Int)) then (b : Int) else (a : Int)) = ((max a b : Nat) : Int) := by
  split <;> omega

theorem refDepth_spec : ∀ (f : Nat) (v : Vl), v.length ≤ f → Rt v → v.length ≤ 1000000 → FnSpec Tryd.prog f_louperef02_Depth [encV v] [] (.int .i64 (depthV v)) []
  | 0, v, h, hr, _ => by have := hr.one.ne; cases v <;> simp at h this
  | f + 1, [], _, hr, _ => absurd rfl hr.one.ne
  | f + 1, n :: r, h, hr, hl => by
    have hok : CtrOk Tryd.prog f_louperef02_Depth (fun args objs K => ∃ w : Vl, args = [encV w] ∧ w.length ≤ f ∧ Rt w ∧ w.length ≤ 1000000 ∧ K (.int .i64 (depthV w)) objs 0) := by
      rintro args objs K ⟨w, rfl, h1, h2, h3, hk⟩
      exact ⟨_, _, _, .pure _ rfl (refDepth_spec f w h1 h2 h3), hk⟩
    refine k_louperef02_Depth.pureG (T := tabL Tryd.prog [(f_louperef02_Parts, ctrRefParts), (f_louperef02_Depth, _)]) 0 hD (kOk_tabL (tabOk_cons ctrRefParts_ok (tabOk_cons hok tabOk_nil))) hmix (by decide) fun Q hQ => ?_
    try simp only [F_all]
    generalize hv : n :: r = v at *
    have hg0 : v[0]? = some n := by rw [← hv]; rfl
    have hd := depthV_eq (n := n) (r := r) (by rw [hv]; exact hr)
    rw [hv] at hd
    by_cases hk : n.kind = 5 ∨ n.kind = 6
    rotate_left 1
    · rw [if_neg hk] at hd
      have k5 : (n.kind = 5) = False := eq_false fun h => hk (.inl h)
      have k6 : (n.kind = 6) = False := eq_false fun h => hk (.inr h)
      simp (maxSteps := 400000) only [↓preZ, postZ, coreZ, ↓preU, postU, D_all, F_all, unR, outL, onePV, binS, ↓binS, boundR, ↓boundR, fieldOf, ↓fieldOf, boxR, allocR, newObj, zeroElem, buildSliceR, appendR, setAll, storeR, St.freeze, makeSliceR, minmaxR, makeFuncR, BEq.rfl, reduceIte, reduceCtorEq, Nat.reduceLT, Nat.reduceAdd, Nat.reduceSub, Nat.reduceMul, Nat.reduceBEq, Nat.reduceLeDiff, Int.reduceToNat, Int.reduceLE, hQ, c_louperef02_Depth, hg0, k5, k6]
      rw [hd]; rfl
    rw [if_pos hk] at hd
    have hps : ∀ p ∈ partsV v, Rt p ∧ p.length < v.length := fun p hp => partsV_rt hr hp
    have hdl := depthV_le hr
    have hlen : (partsV v).length ≤ 1000000 := by
      have hp := hr.one
      rw [← hv] at hp ⊢
      obtain ⟨_, ps, h1, _, _⟩ := hp.parts
      have h2 := parts_len _ _ _ h1
      have h3 := parts_le _ _ _ h1
      simp only [partsV, (partsOf_eq h1).1, List.length_map]
      have : r.length + 1 = v.length := by rw [← hv]; rfl
      omega
    generalize hP : partsV v = P at *
    have main : ∀ p5 p6 : Prop, (n.kind = 5) = p5 → (n.kind = 6) = p6 → (p5 = True ∨ p5 = False ∧ p6 = True) → wpc Tryd.prog D (tabL Tryd.prog [(f_louperef02_Parts, ctrRefParts), (f_louperef02_Depth, fun args objs K => ∃ w : Vl, args = [encV w] ∧ w.length ≤ f ∧ Rt w ∧ w.length ≤ 1000000 ∧ K (.int .i64 (depthV w)) objs 0)]) c_louperef02_Depth Q (startS [encV v] 35) := by
      intro p5 p6 k5 k6 hk
      rcases hk with rfl | ⟨rfl, rfl⟩
      all_goals
        simp (maxSteps := 400000) only [↓preZ, postZ, coreZ, ↓preU, postU, D_all, F_all, unR, outL, onePV, binS, ↓binS, boundR, ↓boundR, fieldOf, ↓fieldOf, boxR, allocR, newObj, zeroElem, buildSliceR, appendR, setAll, storeR, St.freeze, makeSliceR, minmaxR, makeFuncR, BEq.rfl, reduceIte, reduceCtorEq, Nat.reduceLT, Nat.reduceAdd, Nat.reduceSub, Nat.reduceMul, Nat.reduceBEq, Nat.reduceLeDiff, Int.reduceToNat, Int.reduceLE, hQ, c_louperef02_Depth, hg0, k5, k6, ↓ctrRefParts, hP]
        refine ⟨hr.one, hl, ?_⟩
        refine wpc_loop (fun m S => ∃ i : Nat, i + m = P.length ∧ S = ⟨tmA 35 [(3, encL P), (4, .int .i64 (((P.map depthV).take i).foldl max 0 : Nat)), (5, .int .i64 i)], []⟩) P.length ⟨0, by omega, ?_⟩ ?_
        · simp only [normR, keepR, Nat.reduceAdd, lkR, Nat.reduceBEq, F_all, List.map_nil]
          rfl
        rintro m S ⟨i, him, rfl⟩
        rcases Nat.lt_or_ge i P.length with h | h
        rotate_left 1
        · have hlt : ((i : Int) < (P.length : Int)) = False := eq_false (by omega)
          rw [List.take_of_length_le (by rw [List.length_map]; omega)]
          simp (maxSteps := 400000) only [↓preZ, postZ, coreZ, ↓preU, postU, D_all, F_all, unR, outL, onePV, binS, ↓binS, boundR, ↓boundR, fieldOf, ↓fieldOf, boxR, allocR, newObj, zeroElem, buildSliceR, appendR, setAll, storeR, St.freeze, makeSliceR, minmaxR, makeFuncR, BEq.rfl, reduceIte, reduceCtorEq, Nat.reduceLT, Nat.reduceAdd, Nat.reduceSub, Nat.reduceMul, Nat.reduceBEq, Nat.reduceLeDiff, Int.reduceToNat, Int.reduceLE, hQ, hlt]
          rw [hd]
          refine ⟨⟨by omega, by omega⟩, by simp⟩
        have hlt : ((i : Int) < (P.length : Int)) = True := eq_true (by omega)
        have zi : (0 ≤ (i : Int)) = True := eq_true (by omega)
        have hgi := List.getElem?_eq_getElem h
        have hpi := hps _ (List.getElem_mem h)
        generalize P[i] = p at hgi hpi
        have hft := foldl_take (l := P.map depthV) (i := i) (x := depthV p) (by rw [List.getElem?_map, hgi]; rfl)
        simp (maxSteps := 400000) only [↓preZ, postZ, coreZ, ↓preU, postU, D_all, F_all, unR, outL, onePV, binS, ↓binS, boundR, ↓boundR, fieldOf, ↓fieldOf, boxR, allocR, newObj, zeroElem, buildSliceR, appendR, setAll, storeR, St.freeze, makeSliceR, minmaxR, makeFuncR, BEq.rfl, reduceIte, reduceCtorEq, Nat.reduceLT, Nat.reduceAdd, Nat.reduceSub, Nat.reduceMul, Nat.reduceBEq, Nat.reduceLeDiff, Int.reduceToNat, Int.reduceLE, hQ, hlt, zi, hgi]
        refine ⟨p, rfl, by omega, hpi.1, by omega, ?_⟩
        refine ⟨⟨by omega, by omega⟩, m - 1, by omega, i + 1, by omega, ?_⟩
        rw [hft, maxI]
        simp
    rcases hk with hk | hk
    · exact main _ _ (eq_true hk) rfl (.inl rfl)
    · by_cases h5 : n.kind = 5
      · exact main _ _ (eq_true h5) rfl (.inl rfl)
      · exact main _ _ (eq_false h5) (eq_true hk) (.inr ⟨rfl, rfl⟩)
theorem refDepth_spec' (v : Vl) (hr : Rt v) (hl : v.length ≤ 1000000) : FnSpec Tryd.prog f_louperef02_Depth [encV v] [] (.int .i64 (depthV v)) [] := refDepth_spec _ v (Nat.le_refl _) hr hl

def ctrRefDepth : Ctr := fun args objs K => match args with
  | [a0] => ofE encV a0 (HK.mk : HK fun v => (Rt v) ∧ (v.length ≤ 1000000) ∧ K (.int .i64 (depthV v)) objs 0)
  | _ => False
theorem ctrRefDepth_ok : CtrOk Tryd.prog f_louperef02_Depth (ctrRefDepth) := by
  intro args objs K h
  unfold ctrRefDepth at h
  split at h
  · rename_i a0
    obtain ⟨v, rfl, h1, h2, hk⟩ := h
    exact ⟨_, _, _, .pure _ rfl (refDepth_spec' v h1 h2), hk⟩
  · exact h.elim
end Lp

/-! LpD2 -/

namespace Lp
open Go Go.Proofs

set_option maxHeartbeats 4000000
set_option maxRecDepth 20000
set_option linter.unusedSimpArgs false

theorem sEqual_spec (a b : Vl) (ha : a.length ≤ 1000000) (hb : b.length ≤ 1000000) : FnSpec Tryd.prog f_slices_Equal_api_Val_api_Node_ [encV a, encV b] [] (.bool (decide (a = b))) [] := by
  refine k_slices_Equal_api_Val_api_Node_.pureG (T := tabL Tryd.prog []) 0 hD (kOk_tabL tabOk_nil) hmix (by decide) fun Q hQ => ?_
  try simp only [F_all]
  by_cases hl : a.length = b.length
  rotate_left 1
  · have hl' : ((a.length : Int) = (b.length : Int)) = False := eq_false (by omega)
    have hr : decide (a = b) = false := decide_eq_false fun h => hl (by rw [h])
    simp (maxSteps := 400000) only [↓preZ, postZ, coreZ, ↓preU, postU, D_all, F_all, unR, outL, onePV, binS, ↓binS, boundR, ↓boundR, fieldOf, ↓fieldOf, boxR, allocR, newObj, zeroElem, buildSliceR, appendR, setAll, storeR, St.freeze, makeSliceR, minmaxR, makeFuncR, BEq.rfl, reduceIte, reduceCtorEq, Nat.reduceLT, Nat.reduceAdd, Nat.reduceSub, Nat.reduceMul, Nat.reduceBEq, Nat.reduceLeDiff, Int.reduceToNat, Int.reduceLE, hQ, c_slices_Equal_api_Val_api_Node_, hl', hr]
  have hl' : ((a.length : Int) = (b.length : Int)) = True := eq_true (by omega)
  simp (maxSteps := 400000) only [↓preZ, postZ, coreZ, ↓preU, postU, D_all, F_all, unR, outL, onePV, binS, ↓binS, boundR, ↓boundR, fieldOf, ↓fieldOf, boxR, allocR, newObj, zeroElem, buildSliceR, appendR, setAll, storeR, St.freeze, makeSliceR, minmaxR, makeFuncR, BEq.rfl, reduceIte, reduceCtorEq, Nat.reduceLT, Nat.reduceAdd, Nat.reduceSub, Nat.reduceMul, Nat.reduceBEq, Nat.reduceLeDiff, Int.reduceToNat, Int.reduceLE, hQ, c_slices_Equal_api_Val_api_Node_, hl']
  refine wpc_loop (fun m S => ∃ i : Nat, i + m = a.length ∧ (∀ j, j < i → a[j]? = b[j]?) ∧ S = ⟨tmA 26 [(0, encV a), (1, encV b), (12, .int .i64 a.length), (13, .int .i64 i)], []⟩) a.length ⟨0, by omega, fun j h => absurd h (by omega), ?_⟩ ?_
  · simp only [normR, keepR, Nat.reduceAdd, lkR, Nat.reduceBEq, F_all, List.map_nil]
    rfl
  rintro m S ⟨i, him, hj, rfl⟩
  have zi : (0 ≤ (i : Int)) = True := eq_true (by omega)
  rcases Nat.lt_or_ge i a.length with h | h
  rotate_left 1
  · have hlt : ((i : Int) < (a.length : Int)) = False := eq_false (by omega)
    have hab : a = b := List.ext_getElem? fun j => by
      by_cases hji : j < i
      · exact hj j hji
      · rw [List.getElem?_eq_none (by omega), List.getElem?_eq_none (by omega)]
    have hr : decide (a = b) = true := decide_eq_true hab
    simp (maxSteps := 400000) only [↓preZ, postZ, coreZ, ↓preU, postU, D_all, F_all, unR, outL, onePV, binS, ↓binS, boundR, ↓boundR, fieldOf, ↓fieldOf, boxR, allocR, newObj, zeroElem, buildSliceR, appendR, setAll, storeR, St.freeze, makeSliceR, minmaxR, makeFuncR, BEq.rfl, reduceIte, reduceCtorEq, Nat.reduceLT, Nat.reduceAdd, Nat.reduceSub, Nat.reduceMul, Nat.reduceBEq, Nat.reduceLeDiff, Int.reduceToNat, Int.reduceLE, hQ, hlt, hr]
  have hlt : ((i : Int) < (a.length : Int)) = True := eq_true (by omega)
  have ga := List.getElem?_eq_getElem h
  have gb : b[i]? = some (b[i]'(by omega)) := List.getElem?_eq_getElem (by omega)
  generalize a[i] = x at ga
  generalize b[i]'(by omega) = y at gb
  by_cases hxy : x = y
  · have hxy' : (x = y) = True := eq_true hxy
    simp (maxSteps := 400000) only [↓preZ, postZ, coreZ, ↓preU, postU, D_all, F_all, unR, outL, onePV, binS, ↓binS, boundR, ↓boundR, fieldOf, ↓fieldOf, boxR, allocR, newObj, zeroElem, buildSliceR, appendR, setAll, storeR, St.freeze, makeSliceR, minmaxR, makeFuncR, BEq.rfl, reduceIte, reduceCtorEq, Nat.reduceLT, Nat.reduceAdd, Nat.reduceSub, Nat.reduceMul, Nat.reduceBEq, Nat.reduceLeDiff, Int.reduceToNat, Int.reduceLE, hQ, hlt, zi, ga, gb, hxy']
    refine ⟨⟨by omega, by omega⟩, m - 1, by omega, i + 1, by omega, ?_, by simp⟩
    intro j hji
    by_cases hjj : j = i
    · subst hjj; rw [ga, gb, hxy]
    · exact hj j (by omega)
  · have hxy' : (x = y) = False := eq_false hxy
    have hr : decide (a = b) = false := decide_eq_false fun h => hxy (by rw [h, gb] at ga; exact (Option.some.inj ga).symm)
    simp (maxSteps := 400000) only [↓preZ, postZ, coreZ, ↓preU, postU, D_all, F_all, unR, outL, onePV, binS, ↓binS, boundR, ↓boundR, fieldOf, ↓fieldOf, boxR, allocR, newObj, zeroElem, buildSliceR, appendR, setAll, storeR, St.freeze, makeSliceR, minmaxR, makeFuncR, BEq.rfl, reduceIte, reduceCtorEq, Nat.reduceLT, Nat.reduceAdd, Nat.reduceSub, Nat.reduceMul, Nat.reduceBEq, Nat.reduceLeDiff, Int.reduceToNat, Int.reduceLE, hQ, hlt, zi, ga, gb, hxy', hr]

def ctrSEqual : Ctr := fun args objs K => match args with
  | [a0, a1] => ofE encV a0 (HK.mk : HK fun a => ofE encV a1 (HK.mk : HK fun b => (a.length ≤ 1000000) ∧ (b.length ≤ 1000000) ∧ K (.bool (decide (a = b))) objs 0))
  | _ => False
theorem ctrSEqual_ok : CtrOk Tryd.prog f_slices_Equal_api_Val_api_Node_ (ctrSEqual) := by
  intro args objs K h
  unfold ctrSEqual at h
  split at h
  · rename_i a0 a1
    obtain ⟨a, rfl, b, rfl, h1, h2, hk⟩ := h
    exact ⟨_, _, _, .pure _ rfl (sEqual_spec a b h1 h2), hk⟩
  · exact h.elim

theorem valSame_spec (a b : Vl) (ha : a.length ≤ 1000000) (hb : b.length ≤ 1000000) : FnSpec Tryd.prog f_val_Same [encV a, encV b] [] (.bool (decide (a = b))) [] := by
  refine k_val_Same.pureG (T := tabL Tryd.prog [(f_slices_Equal_api_Val_api_Node_, ctrSEqual)]) 0 hD (kOk_tabL (tabOk_cons ctrSEqual_ok tabOk_nil)) hmix (by decide) fun Q hQ => ?_
  try simp only [F_all]
  simp (maxSteps := 400000) only [↓preZ, postZ, coreZ, ↓preU, postU, D_all, F_all, unR, outL, onePV, binS, ↓binS, boundR, ↓boundR, fieldOf, ↓fieldOf, boxR, allocR, newObj, zeroElem, buildSliceR, appendR, setAll, storeR, St.freeze, makeSliceR, minmaxR, makeFuncR, BEq.rfl, reduceIte, reduceCtorEq, Nat.reduceLT, Nat.reduceAdd, Nat.reduceSub, Nat.reduceMul, Nat.reduceBEq, Nat.reduceLeDiff, Int.reduceToNat, Int.reduceLE, hQ, c_val_Same, ↓ctrSEqual]
  exact ⟨ha, hb⟩

def ctrValSame : Ctr := fun args objs K => match args with
  | [a0, a1] => ofE encV a0 (HK.mk : HK fun a => ofE encV a1 (HK.mk : HK fun b => (a.length ≤ 1000000) ∧ (b.length ≤ 1000000) ∧ K (.bool (decide (a = b))) objs 0))
  | _ => False
theorem ctrValSame_ok : CtrOk Tryd.prog f_val_Same (ctrValSame) := by
  intro args objs K h
  unfold ctrValSame at h
  split at h
  · rename_i a0 a1
    obtain ⟨a, rfl, b, rfl, h1, h2, hk⟩ := h
    exact ⟨_, _, _, .pure _ rfl (valSame_spec a b h1 h2), hk⟩
  · exact h.elim

/-- What is known in a round of a loop over a function. -/
theorem knI (l : List (FuncId × Ctr)) (n : Nat) : (((tabL Tryd.prog l).inner n).fn = tabF l) ∧ (((tabL Tryd.prog l).inner n).noY = (tabL Tryd.prog l).inner n) ∧ (((tabL Tryd.prog l).inner n).nx = n) := ⟨rfl, rfl, rfl⟩

/-- The parts, as a loop over val.each meets them. -/
theorem each_gives (v : Vl) (hr : Rt v) (hl : v.length ≤ 1000000) : ∃ ps : List Vl, partsV v = ps.map clr ∧ (∀ p ∈ ps, Rt (clr p)) ∧ ps.length ≤ v.length ∧ (namesV v = ps.map nameOf ∨ (∃ n r, v = n :: r ∧ n.kind ≠ 6)) ∧ Gives Tryd.prog f_val_each_1 [.addr (encV v)] (ps.map rowOf) := by
  obtain ⟨n, r, rfl, _⟩ := nameOf_nil hr.name hr.one.ne
  obtain ⟨h1, h2, ps, h3, h4, h5, h6, h7⟩ := hr.parts
  obtain ⟨q1, q2⟩ := partsOf_eq h3
  have h8 := parts_len _ _ _ h3
  have h9 := parts_le _ _ _ h3
  refine ⟨ps, by simp only [partsV, q1], h7, by simp only [List.length_cons]; omega, ?_, each1_gives (n :: r) n r ps rfl (by omega) h2 h3⟩
  by_cases hk : n.kind = 6
  · left; simp only [namesV, if_pos hk, q2]
  · right; exact ⟨n, r, rfl, hk⟩

theorem rowOf_len (ps : List Vl) : ∀ y ∈ ps.map rowOf, y.length = 2 := by
  intro y hy
  obtain ⟨p, _, rfl⟩ := List.mem_map.1 hy
  rfl

theorem rowOf_get {ps : List Vl} {i : Nat} {args : List PV} (h : (ps.map rowOf)[i]? = some args) : ∃ p, ps[i]? = some p ∧ args = [.str (nameOf p), encV (clr p)] := by
  rw [List.getElem?_map] at h
  cases hx : ps[i]? with
  | none => rw [hx] at h; simp at h
  | some p => rw [hx] at h; exact ⟨p, rfl, by simpa [rowOf] using h.symm⟩

def ctrEach2 : Ctr := fun args objs K => match args with
  | [a0] => ofE encV a0 (HK.mk : HK fun v => K (.fn f_val_each_1 [] [.addr (encV v)]) objs 0)
  | _ => False
theorem ctrEach2_ok : CtrOk Tryd.prog f_val_each (ctrEach2) := by
  intro args objs K h
  unfold ctrEach2 at h
  split at h
  · rename_i a0
    obtain ⟨v, rfl, hk⟩ := h
    exact ⟨_, _, _, .pure _ rfl (each_spec v), hk⟩
  · exact h.elim

def ctrDepthF (f : Nat) : Ctr := fun args objs K => match args with
  | [a0] => ofE encV a0 (HK.mk : HK fun v => (v.length ≤ f) ∧ (Rt v) ∧ (v.length ≤ 1000000) ∧ K (.int .i64 (depthV v)) objs 0)
  | _ => False

theorem depth_spec : ∀ (f : Nat) (v : Vl), v.length ≤ f → Rt v → v.length ≤ 1000000 → FnSpec Tryd.prog f_val_Depth [encV v] [] (.int .i64 (depthV v)) []
  | 0, v, h, hr, _ => by have := hr.one.ne; cases v <;> simp at h this
  | f + 1, [], _, hr, _ => absurd rfl hr.one.ne
  | f + 1, n :: r, h, hr, hl => by
    have okDepthF : CtrOk Tryd.prog f_val_Depth (ctrDepthF f) := by
      intro args objs K h
      unfold ctrDepthF at h
      split at h
      · rename_i a0
        obtain ⟨v, rfl, h1, h2, h3, hk⟩ := h
        exact ⟨_, _, _, .pure _ rfl (depth_spec f v h1 h2 h3), hk⟩
      · exact h.elim
    refine k_val_Depth.pureG (T := tabL Tryd.prog [(f_val_each, ctrEach2), (f_val_Depth, ctrDepthF f)]) 0 hD (kOk_tabL (tabOk_cons ctrEach2_ok (tabOk_cons okDepthF tabOk_nil))) hmix (by decide) fun Q hQ => ?_
    try simp only [F_all]
    generalize hv : n :: r = v at *
    have hg0 : v[0]? = some n := by rw [← hv]; rfl
    have hd := depthV_eq (n := n) (r := r) (by rw [hv]; exact hr)
    rw [hv] at hd
    by_cases hk : n.kind = 5 ∨ n.kind = 6
    rotate_left 1
    · rw [if_neg hk] at hd
      have k5 : (n.kind = 5) = False := eq_false fun h => hk (.inl h)
      have k6 : (n.kind = 6) = False := eq_false fun h => hk (.inr h)
      simp (maxSteps := 400000) only [↓preZ, postZ, coreZ, ↓preU, postU, D_all, F_all, unR, outL, onePV, binS, ↓binS, boundR, ↓boundR, fieldOf, ↓fieldOf, boxR, allocR, newObj, zeroElem, buildSliceR, appendR, setAll, storeR, St.freeze, makeSliceR, minmaxR, makeFuncR, BEq.rfl, reduceIte, reduceCtorEq, Nat.reduceLT, Nat.reduceAdd, Nat.reduceSub, Nat.reduceMul, Nat.reduceBEq, Nat.reduceLeDiff, Int.reduceToNat, Int.reduceLE, hQ, c_val_Depth, hg0, k5, k6]
      rw [hd]; rfl
    rw [if_pos hk] at hd
    have hps0 : ∀ p ∈ partsV v, Rt p ∧ p.length < v.length := fun p hp => partsV_rt hr hp
    have hdl := depthV_le hr
    obtain ⟨ps, hP, hprt, hpl, _, hgv⟩ := each_gives v hr hl
    rw [hP] at hd hps0
    have main : ∀ p5 p6 : Prop, (n.kind = 5) = p5 → (n.kind = 6) = p6 → (p5 = True ∨ p5 = False ∧ p6 = True) → wpc Tryd.prog D (tabL Tryd.prog [(f_val_each, ctrEach2), (f_val_Depth, ctrDepthF f)]) c_val_Depth Q (startS [encV v] 28) := by
      intro p5 p6 k5 k6 hk
      rcases hk with rfl | ⟨rfl, rfl⟩
      all_goals
        simp (maxSteps := 400000) only [↓preZ, postZ, coreZ, ↓preU, postU, D_all, F_all, unR, outL, onePV, binS, ↓binS, boundR, ↓boundR, fieldOf, ↓fieldOf, boxR, allocR, newObj, zeroElem, buildSliceR, appendR, setAll, storeR, St.freeze, makeSliceR, minmaxR, makeFuncR, BEq.rfl, reduceIte, reduceCtorEq, Nat.reduceLT, Nat.reduceAdd, Nat.reduceSub, Nat.reduceMul, Nat.reduceBEq, Nat.reduceLeDiff, Int.reduceToNat, Int.reduceLE, hQ, c_val_Depth, hg0, k5, k6, ↓ctrEach2]
        refine wpc_rf f_val_each_1 [.addr (encV v)] (ps.map rowOf) (fun i O => i ≤ ps.length ∧ O = [⟨t_int, 1, [.int .i64 (((ps.map (fun p => depthV (clr p))).take i).foldl max 0 : Nat)], true, 1⟩]) rfl rfl rfl trivial hgv (rowOf_len ps) ⟨Nat.zero_le _, rfl⟩ ?_ ?_ ?_
        · rintro i O ⟨_, rfl⟩
          refine ⟨by simp, ?_⟩
          intro o ho x hx c hc
          simp only [List.mem_singleton] at ho
          subst ho
          simp only [List.mem_singleton] at hx
          subst hx
          simp only [PV.cells, List.mem_singleton] at hc
          subst hc
          rfl
        · rintro i args O ⟨hi, rfl⟩ ha
          obtain ⟨p, hpi, rfl⟩ := rowOf_get ha
          have hpm := hps0 (clr p) (List.mem_map.2 ⟨p, List.mem_of_getElem? hpi, rfl⟩)
          have hft := foldl_take (l := ps.map (fun p => depthV (clr p))) (i := i) (x := depthV (clr p)) (by rw [List.getElem?_map, hpi]; rfl)
          have hil := (List.getElem?_eq_some_iff.1 hpi).1
          simp (maxSteps := 400000) only [↓preZ, postZ, coreZ, ↓preU, postU, D_all, F_all, unR, outL, onePV, binS, ↓binS, boundR, ↓boundR, fieldOf, ↓fieldOf, boxR, allocR, newObj, zeroElem, buildSliceR, appendR, setAll, storeR, St.freeze, makeSliceR, minmaxR, makeFuncR, BEq.rfl, reduceIte, reduceCtorEq, Nat.reduceLT, Nat.reduceAdd, Nat.reduceSub, Nat.reduceMul, Nat.reduceBEq, Nat.reduceLeDiff, Int.reduceToNat, Int.reduceLE, hQ, setL, knI, ↓ctrDepthF, maxI]
          exact ⟨by omega, hpm.1, by omega, rfl, by omega, by rw [hft]; rfl⟩
        · rintro O ⟨_, rfl⟩
          rw [List.length_map, List.take_of_length_le (by rw [List.length_map]; exact Nat.le_refl _)]
          simp (maxSteps := 400000) only [↓preZ, postZ, coreZ, ↓preU, postU, D_all, F_all, unR, outL, onePV, binS, ↓binS, boundR, ↓boundR, fieldOf, ↓fieldOf, boxR, allocR, newObj, zeroElem, buildSliceR, appendR, setAll, storeR, St.freeze, makeSliceR, minmaxR, makeFuncR, BEq.rfl, reduceIte, reduceCtorEq, Nat.reduceLT, Nat.reduceAdd, Nat.reduceSub, Nat.reduceMul, Nat.reduceBEq, Nat.reduceLeDiff, Int.reduceToNat, Int.reduceLE, hQ]
          rw [List.map_map] at hd
          have hd' : depthV v = List.foldl max 0 (List.map (fun p => depthV (clr p)) ps) + 1 := hd
          rw [hd']
          exact ⟨⟨by omega, by omega⟩, by simp⟩
    rcases hk with hk | hk
    · exact main _ _ (eq_true hk) rfl (.inl rfl)
    · by_cases h5 : n.kind = 5
      · exact main _ _ (eq_true h5) rfl (.inl rfl)
      · exact main _ _ (eq_false h5) (eq_true hk) (.inr ⟨rfl, rfl⟩)
theorem depth_spec' (v : Vl) (hr : Rt v) (hl : v.length ≤ 1000000) : FnSpec Tryd.prog f_val_Depth [encV v] [] (.int .i64 (depthV v)) [] := depth_spec _ v (Nat.le_refl _) hr hl

def ctrValDepth : Ctr := fun args objs K => match args with
  | [a0] => ofE encV a0 (HK.mk : HK fun v => (Rt v) ∧ (v.length ≤ 1000000) ∧ K (.int .i64 (depthV v)) objs 0)
  | _ => False
theorem ctrValDepth_ok : CtrOk Tryd.prog f_val_Depth (ctrValDepth) := by
  intro args objs K h
  unfold ctrValDepth at h
  split at h
  · rename_i a0
    obtain ⟨v, rfl, h1, h2, hk⟩ := h
    exact ⟨_, _, _, .pure _ rfl (depth_spec' v h1 h2), hk⟩
  · exact h.elim
end Lp

/-! LpV5 -/

namespace Lp
open Go Go.Lib

set_option maxRecDepth 100000
set_option maxHeartbeats 2000000

def leadOk (b0 : Nat) : Bool :=
  decide (b0 < 128) || (firstT b0 % 8 == 1 && (decide (b0 < 194) || decide (245 ≤ b0))) || (firstT b0 % 8 == 2 && accLo (firstT b0 / 16) == 128 && accHi (firstT b0 / 16) == 191 && decide (194 ≤ b0) && decide (b0 < 224)) ||
    (firstT b0 % 8 == 3 && accLo (firstT b0 / 16) == (if b0 = 224 then 160 else 128) && accHi (firstT b0 / 16) == (if b0 = 237 then 159 else 191) && decide (224 ≤ b0) && decide (b0 < 240)) ||
    (firstT b0 % 8 == 4 && accLo (firstT b0 / 16) == (if b0 = 240 then 144 else 128) && accHi (firstT b0 / 16) == (if b0 = 244 then 143 else 191) && decide (240 ≤ b0) && decide (b0 < 245))

theorem leadOk_all : (List.range 256).all leadOk = true := by decide

theorem lead_class (b0 : Nat) (h : b0 < 256) (h' : 128 ≤ b0) : (firstT b0 % 8 = 1 ∧ (b0 < 194 ∨ 245 ≤ b0)) ∨ (firstT b0 % 8 = 2 ∧ accLo (firstT b0 / 16) = 128 ∧ accHi (firstT b0 / 16) = 191 ∧ 194 ≤ b0 ∧ b0 < 224) ∨
    (firstT b0 % 8 = 3 ∧ accLo (firstT b0 / 16) = (if b0 = 224 then 160 else 128) ∧ accHi (firstT b0 / 16) = (if b0 = 237 then 159 else 191) ∧ 224 ≤ b0 ∧ b0 < 240) ∨
    (firstT b0 % 8 = 4 ∧ accLo (firstT b0 / 16) = (if b0 = 240 then 144 else 128) ∧ accHi (firstT b0 / 16) = (if b0 = 244 then 143 else 191) ∧ 240 ≤ b0 ∧ b0 < 245) := by
  have := List.all_eq_true.1 leadOk_all b0 (List.mem_range.2 h)
  simp only [leadOk, Bool.or_eq_true, Bool.and_eq_true, decide_eq_true_eq, beq_iff_eq, and_assoc] at this
  rcases this with (((g | g) | g) | g) | g
  · omega
  · exact .inl g
  · exact .inr (.inl g)
  · exact .inr (.inr (.inl g))
  · exact .inr (.inr (.inr g))

theorem utf_step (c : UInt8) (t : List UInt8) : utf (c :: t) = (runeN (c :: t) != 0 && utf ((c :: t).drop (runeN (c :: t)))) := by
  unfold utf
  rw [List.length_cons, utfF]
  simp only [List.isEmpty_cons, Bool.false_or]
  by_cases h : runeN (c :: t) = 0
  · simp [h]
  · congr 1
    exact utfF_more _ _ _ (by simp only [List.length_drop, List.length_cons]; omega) (Nat.le_refl _)

theorem u8n (c : UInt8) (n : Nat) (h : n < 256) : c = UInt8.ofNat n ↔ c.toNat = n := by
  constructor
  · rintro rfl; simp [UInt8.toNat_ofNat']; omega
  · intro e; rw [← e]; simp

theorem check_rune (c : UInt8) (t : List UInt8) (h : 128 ≤ c.toNat) :
    checkN (t.length + 1) (t.getD 0 0).toNat (t.getD 1 0).toNat (t.getD 2 0).toNat (firstT c.toNat % 8) (accLo (firstT c.toNat / 16)) (accHi (firstT c.toNat / 16)) =
      if runeN (c :: t) = 0 then none else some (runeN (c :: t)) := by
  have e1 : (c < 128) ↔ c.toNat < 128 := UInt8.lt_iff_toNat_lt
  have e2 : (194 ≤ c) ↔ 194 ≤ c.toNat := UInt8.le_iff_toNat_le
  have e3 : (c < 224) ↔ c.toNat < 224 := UInt8.lt_iff_toNat_lt
  have e4 : (224 ≤ c) ↔ 224 ≤ c.toNat := UInt8.le_iff_toNat_le
  have e5 : (c < 240) ↔ c.toNat < 240 := UInt8.lt_iff_toNat_lt
  have e6 : (240 ≤ c) ↔ 240 ≤ c.toNat := UInt8.le_iff_toNat_le
  have e7 : (c < 245) ↔ c.toNat < 245 := UInt8.lt_iff_toNat_lt
  have e8 : c = 224 ↔ c.toNat = 224 := u8n c 224 (by decide)
  have e9 : c = 237 ↔ c.toNat = 237 := u8n c 237 (by decide)
  have ea : c = 240 ↔ c.toNat = 240 := u8n c 240 (by decide)
  have eb : c = 244 ↔ c.toNat = 244 := u8n c 244 (by decide)
  have hc : ∀ i, contB t i = true ↔ i < t.length ∧ 128 ≤ (t.getD i 0).toNat ∧ (t.getD i 0).toNat < 192 := by
    intro i
    unfold contB
    cases hg : t[i]? with
    | none =>
      have := List.getElem?_eq_none_iff.1 hg
      simp; omega
    | some d =>
      have hl := (List.getElem?_eq_some_iff.1 hg).1
      have hd : t.getD i 0 = d := by simp [List.getD, hg]
      rw [hd]
      simp only [Bool.and_eq_true, decide_eq_true_eq]
      have x1 : (128 ≤ d) ↔ 128 ≤ d.toNat := UInt8.le_iff_toNat_le
      have x2 : (d < 192) ↔ d.toNat < 192 := UInt8.lt_iff_toNat_lt
      rw [x1, x2]
      exact ⟨fun g => ⟨hl, g⟩, fun g => g.2⟩
  have hh : t.headD 0 = t.getD 0 0 := by cases t <;> rfl
  have f1 : (t.getD 0 0 < 160) ↔ (t.getD 0 0).toNat < 160 := UInt8.lt_iff_toNat_lt
  have f2 : (160 ≤ t.getD 0 0) ↔ 160 ≤ (t.getD 0 0).toNat := UInt8.le_iff_toNat_le
  have f3 : (t.getD 0 0 < 144) ↔ (t.getD 0 0).toNat < 144 := UInt8.lt_iff_toNat_lt
  have f4 : (144 ≤ t.getD 0 0) ↔ 144 ≤ (t.getD 0 0).toNat := UInt8.le_iff_toNat_le
  simp only [runeN, e1, e2, e3, e4, e5, e6, e7, e8, e9, ea, eb, hc, hh, f1, f2, f3, f4]
  have hn := c.toNat_lt
  generalize c.toNat = n at *
  generalize (t.getD 0 0).toNat = b1 at *
  generalize (t.getD 1 0).toNat = b2 at *
  generalize (t.getD 2 0).toNat = b3 at *
  generalize t.length = L at *
  clear e1 e2 e3 e4 e5 e6 e7 e8 e9 ea eb hc f1 f2 f3 f4 hh
  obtain ⟨R, hR⟩ : ∃ R, (if n < 128 then 1 else if 194 ≤ n ∧ n < 224 ∧ 0 < L ∧ 128 ≤ b1 ∧ b1 < 192 then 2
    else if 224 ≤ n ∧ n < 240 ∧ (0 < L ∧ 128 ≤ b1 ∧ b1 < 192) ∧ 1 < L ∧ 128 ≤ b2 ∧ b2 < 192 then (if n = 224 ∧ b1 < 160 ∨ n = 237 ∧ 160 ≤ b1 then 0 else 3)
    else if 240 ≤ n ∧ n < 245 ∧ (0 < L ∧ 128 ≤ b1 ∧ b1 < 192) ∧ (1 < L ∧ 128 ≤ b2 ∧ b2 < 192) ∧ 2 < L ∧ 128 ≤ b3 ∧ b3 < 192 then (if n = 240 ∧ b1 < 144 ∨ n = 244 ∧ 144 ≤ b1 then 0 else 4) else 0) = R := ⟨_, rfl⟩
  rw [hR]
  rw [if_neg (by omega)] at hR
  rcases lead_class n hn h with ⟨k1, k2⟩ | ⟨k1, k2, k3, k4, k5⟩ | ⟨k1, k2, k3, k4, k5⟩ | ⟨k1, k2, k3, k4, k5⟩
  · rw [k1]
    rw [if_neg (by omega), if_neg (by omega), if_neg (by omega)] at hR
    subst hR; rfl
  · rw [k1, k2, k3]
    simp only [checkN, if_true]
    by_cases g : 0 < L ∧ 128 ≤ b1 ∧ b1 < 192
    · rw [if_pos ⟨k4, k5, g⟩] at hR
      subst hR
      rw [if_neg (by omega)]; rfl
    · rw [if_neg (by omega), if_neg (by omega), if_neg (by omega)] at hR
      subst hR
      rw [if_pos (by omega)]; rfl
  · rw [k1, k2, k3]
    simp only [checkN, Nat.reduceEqDiff, if_false, if_true]
    rw [if_neg (by omega)] at hR
    by_cases g : (0 < L ∧ 128 ≤ b1 ∧ b1 < 192) ∧ 1 < L ∧ 128 ≤ b2 ∧ b2 < 192
    · rw [if_pos ⟨k4, k5, g⟩] at hR
      by_cases g2 : n = 224 ∧ b1 < 160 ∨ n = 237 ∧ 160 ≤ b1
      · rw [if_pos g2] at hR
        subst hR
        rw [if_pos (by split <;> split <;> omega)]; rfl
      · rw [if_neg g2] at hR
        subst hR
        rw [if_neg (by split <;> split <;> omega)]; rfl
    · rw [if_neg (fun x => g x.2.2), if_neg (by omega)] at hR
      subst hR
      rw [if_pos (by split <;> split <;> omega)]; rfl
  · rw [k1, k2, k3]
    simp only [checkN, Nat.reduceEqDiff, if_false, if_true]
    rw [if_neg (by omega), if_neg (by omega)] at hR
    by_cases g : (0 < L ∧ 128 ≤ b1 ∧ b1 < 192) ∧ (1 < L ∧ 128 ≤ b2 ∧ b2 < 192) ∧ 2 < L ∧ 128 ≤ b3 ∧ b3 < 192
    · rw [if_pos ⟨k4, k5, g⟩] at hR
      by_cases g2 : n = 240 ∧ b1 < 144 ∨ n = 244 ∧ 144 ≤ b1
      · rw [if_pos g2] at hR
        subst hR
        rw [if_pos (by split <;> split <;> omega)]; rfl
      · rw [if_neg g2] at hR
        subst hR
        rw [if_neg (by split <;> split <;> omega)]; rfl
    · rw [if_neg (fun x => g x.2.2)] at hR
      subst hR
      rw [if_pos (by split <;> split <;> omega)]; rfl

theorem validD_utf : ∀ (k : Nat) (l : List UInt8), l.length ≤ k → validD l = utf l
  | _, [], _ => rfl
  | 0, _ :: _, h => by simp at h
  | k + 1, c :: t, h => by
    simp only [List.length_cons] at h
    rw [utf_step]
    by_cases hc : c.toNat < 128
    · have hr : runeN (c :: t) = 1 := by
        simp only [runeN]; rw [if_pos (UInt8.lt_iff_toNat_lt.2 hc)]
      rw [validD_cons c t hc, hr, validD_utf k t (by omega)]; simp
    · rw [validD_lead _ (by simp) (by simpa using hc)]
      have e := check_rune c t (by omega)
      simp only [List.getD_cons_zero, List.getD_cons_succ, List.length_cons] at e ⊢
      rw [e]
      by_cases h0 : runeN (c :: t) = 0
      · rw [if_pos h0, h0]; rfl
      · rw [if_neg h0]
        have : ((c :: t).drop (runeN (c :: t))).length ≤ k := by simp only [List.length_drop, List.length_cons]; omega
        rw [show (runeN (c :: t) != 0) = true by simpa using h0, Bool.true_and]
        exact validD_utf k _ this

theorem validD_eq (l : List UInt8) : validD l = utf l := validD_utf _ l (Nat.le_refl _)

/-- Figures, as runes. -/
def figP (x : Nat) : Bool := decide (48 ≤ x) && decide (x ≤ 57)

theorem decodeN_fig (n b0 b1 b2 b3 : Nat) (h : (decodeN n b0 b1 b2 b3).1 < 128) : b0 < 128 ∧ decodeN n b0 b1 b2 b3 = (b0, 1) := by
  unfold decodeN at *
  split at h
  · rename_i h0; rw [if_pos h0]; exact ⟨h0, rfl⟩
  · exfalso
    repeat' split at h
    all_goals (simp at h; try omega)

theorem decodeN_low (n b0 b1 b2 b3 : Nat) (h : b0 < 128) : decodeN n b0 b1 b2 b3 = (b0, 1) := by unfold decodeN; rw [if_pos h]

theorem figP_lt {x : Nat} (h : figP x = true) : x < 128 := by simp [figP] at h; omega

/-- From a place on there are figures alone. -/
def digFrom (l : List UInt8) (i : Nat) : Prop := ∀ j, i ≤ j → j < l.length → figP (l.getD j 0).toNat = true

theorem idx_figs (s : ByteArray) : ∀ (f pos : Nat), s.data.toList.length - pos ≤ f → (idxFuncFrom figP false s f pos = -1 ↔ digFrom s.data.toList pos)
  | 0, pos, h => by
    simp only [idxFuncFrom, true_iff]
    intro j h1 h2; omega
  | f + 1, pos, h => by
    unfold idxFuncFrom
    rw [size_eq]
    split
    · rename_i hp
      rw [decode_N]
      generalize hd : decodeN _ _ _ _ _ = d
      split
      · rename_i hf
        have : ¬ digFrom s.data.toList pos := fun hg => by
          have g := hg pos (Nat.le_refl _) hp
          rw [decodeN_low _ _ _ _ _ (figP_lt g)] at hd
          rw [← hd] at hf
          simp only at hf
          rw [g] at hf; cases hf
        simp only [this, iff_false]; omega
      · rename_i hf
        simp only [Bool.not_eq_false] at hf
        have hlt := figP_lt hf
        rw [← hd] at hlt
        obtain ⟨g1, g2⟩ := decodeN_fig _ _ _ _ _ hlt
        rw [g2] at hd
        subst hd
        rw [idx_figs s f (pos + 1) (by omega)]
        constructor
        · intro hh j h1 h2
          rcases Nat.eq_or_lt_of_le h1 with rfl | h1
          · exact hf
          · exact hh j h1 h2
        · intro hh j h1 h2; exact hh j (by omega) h2
    · rename_i hp
      simp only [true_iff]
      intro j h1 h2; omega

theorem decodeLast_fig (l : List UInt8) (h : (decodeLastL l).1 < 128) : l ≠ [] ∧ (l.getD (l.length - 1) 0).toNat < 128 ∧ decodeLastL l = ((l.getD (l.length - 1) 0).toNat, 1) := by
  unfold decodeLastL at *
  split at h
  · simp [Utf8.runeError] at h
  · rename_i hne
    rw [if_neg hne]
    split at h
    · rename_i h1; rw [if_pos h1]; exact ⟨hne, h1, rfl⟩
    · rename_i h1
      exfalso
      simp only at h
      split at h
      · rename_i h2
        rw [decodeL_N] at h h2
        obtain ⟨g1, g2⟩ := decodeN_fig _ _ _ _ _ h
        rw [g2] at h2
        simp only [getD_dropU] at g1
        have : lastStart l + 0 = l.length - 1 := by omega
        rw [this] at g1
        exact h1 g1
      · simp [Utf8.runeError] at h

theorem last_figs (s : ByteArray) : ∀ (f i : Nat), i ≤ f → i ≤ s.data.toList.length → lastIdxFuncFrom figP false s f i = -1 → ∀ j, j < i → figP (s.data.toList.getD j 0).toNat = true
  | 0, i, h, _, _, j, hj => by omega
  | f + 1, i, h, hi, hx, j, hj => by
    unfold lastIdxFuncFrom at hx
    rw [if_pos (by omega)] at hx
    split at hx
    · omega
    · rename_i hf
      simp only [Bool.not_eq_false] at hf
      obtain ⟨g0, g1, g2⟩ := decodeLast_fig _ (figP_lt hf)
      rw [g2] at hf hx
      have hl : (s.data.toList.take i).length = i := by rw [List.length_take]; omega
      rw [hl] at hf hx
      have e : (s.data.toList.take i).getD (i - 1) 0 = s.data.toList.getD (i - 1) 0 := by
        simp only [List.getD, List.getElem?_take]; rw [if_pos (by omega)]
      rw [e] at hf
      rcases Nat.lt_or_ge j (i - 1) with h1 | h1
      · exact last_figs s f (i - 1) (by omega) (by omega) hx j h1
      · have : j = i - 1 := by omega
        subst this; exact hf

theorem figs_dig (l : List UInt8) : figs l = true ↔ digFrom l 0 := by
  unfold figs digFrom
  rw [List.all_eq_true]
  have key : ∀ c : UInt8, (decide (48 ≤ c) && decide (c ≤ 57)) = figP c.toNat := fun c => by
    have x1 : (48 ≤ c) ↔ 48 ≤ c.toNat := UInt8.le_iff_toNat_le
    have x2 : (c ≤ 57) ↔ c.toNat ≤ 57 := UInt8.le_iff_toNat_le
    simp only [figP, x1, x2]
  constructor
  · intro h j _ hj
    rw [← key]
    have : l.getD j 0 = l[j] := by simp [List.getD, hj]
    rw [this]
    exact h _ (List.getElem_mem hj)
  · intro h c hc
    obtain ⟨j, hj, rfl⟩ := List.mem_iff_getElem.1 hc
    rw [key]
    have : l.getD j 0 = l[j] := by simp [List.getD, hj]
    rw [← this]
    exact h j (Nat.zero_le _) hj

theorem lastIdx_lt' (p : Nat → Bool) (truth : Bool) (s : ByteArray) : ∀ (f i : Nat), i ≤ s.size → lastIdxFuncFrom p truth s f i = -1 ∨ (0 ≤ lastIdxFuncFrom p truth s f i ∧ lastIdxFuncFrom p truth s f i < i)
  | 0, _, _ => .inl rfl
  | f + 1, i, hi => by
    unfold lastIdxFuncFrom
    split
    · rename_i h0
      have hk := decodeLastL_width (s.data.toList.take i) (by rw [List.length_take, ← size_eq]; omega)
      rw [List.length_take, ← size_eq, Nat.min_eq_left hi] at hk
      split
      · exact .inr ⟨by omega, by omega⟩
      · rcases lastIdx_lt' p truth s f (i - (decodeLastL (s.data.toList.take i)).2) (by omega) with h | ⟨h1, h2⟩
        · exact .inl h
        · exact .inr ⟨h1, by omega⟩
    · exact .inl rfl

theorem trimF_figs (l : List UInt8) : (trimF figP ⟨⟨l⟩⟩ = ⟨⟨[]⟩⟩) ↔ figs l = true := by
  have hi := idx_figs ⟨⟨l⟩⟩ l.length 0 (by simp)
  rw [figs_dig, ← (show (({ data := { toList := l } } : ByteArray).data.toList) = l from rfl), ← hi]
  have hidx : idxFunc figP false ⟨⟨l⟩⟩ = idxFuncFrom figP false ⟨⟨l⟩⟩ l.length 0 := rfl
  rw [← hidx]
  unfold trimF trimLeftF
  constructor
  · intro h
    refine Classical.byContradiction fun hne => ?_
    rw [if_neg hne] at h
    have hr := idxFunc_range figP false ⟨⟨l⟩⟩
    obtain ⟨r1, r2⟩ := hr.resolve_left hne
    rw [size_eq] at r2
    generalize hk : (idxFunc figP false ⟨⟨l⟩⟩).toNat = k at *
    have hkl : k < l.length := by simp at r2; omega
    rw [extract_from] at h
    simp only at h
    -- the rune at k is no figure
    have hnd : figP (l.getD k 0).toNat = false := by
      have key : ∀ f pos, idxFuncFrom figP false ⟨⟨l⟩⟩ f pos ≠ -1 → figP (Utf8.decode ⟨⟨l⟩⟩ (idxFuncFrom figP false ⟨⟨l⟩⟩ f pos).toNat).1 = false := by
        intro f
        induction f with
        | zero => intro pos h; exact absurd rfl h
        | succ f ih =>
          intro pos h
          unfold idxFuncFrom at h ⊢
          split at h
          · rename_i hp
            rw [if_pos hp]
            split at h
            · rename_i hf; rw [if_pos hf]; simpa using hf
            · rename_i hf; rw [if_neg hf]; exact ih _ h
          · exact absurd rfl h
      have := key _ _ hne
      rw [show (⟨⟨l⟩⟩ : ByteArray).size = l.length from rfl, ← hidx, hk, decode_N] at this
      cases hb : figP (l.getD k 0).toNat with
      | false => rfl
      | true =>
        have hlow := figP_lt hb
        rw [decodeN_low _ _ _ _ _ hlow] at this
        simp only at this
        rw [hb] at this; cases this
    unfold trimRightF at h
    rw [extract_upto] at h
    have hlen := congrArg (fun b : ByteArray => b.data.toList.length) h
    simp only [List.length_take, List.length_drop, List.length_nil] at hlen
    have hz : rightEndF figP ⟨(l.drop k).toArray⟩ = 0 := by omega
    unfold rightEndF at hz
    have hlt := lastIdx_lt' figP false ⟨(l.drop k).toArray⟩ (l.drop k).length (l.drop k).length (by rw [size_eq]; exact Nat.le_refl _)
    have hli : lastIdxFunc figP false ⟨(l.drop k).toArray⟩ = lastIdxFuncFrom figP false ⟨(l.drop k).toArray⟩ (l.drop k).length (l.drop k).length := rfl
    split at hz
    · rename_i h0
      rw [hli] at h0 hz
      obtain ⟨h1, h2⟩ := hlt.resolve_left (by omega)
      have h3 : 1 ≤ (decodeGoB ((⟨(l.drop k).toArray⟩ : ByteArray).extract (lastIdxFuncFrom figP false ⟨(l.drop k).toArray⟩ (l.drop k).length (l.drop k).length).toNat (⟨(l.drop k).toArray⟩ : ByteArray).size)).2 := by
        unfold decodeGoB
        rw [if_neg]
        · exact width_pos _ _
        · rw [extract_from, size_eq]
          simp only [List.length_drop] at h2 ⊢
          omega
      omega
    · rename_i h0
      rw [hli] at h0
      have h1 := hlt.resolve_right (by omega)
      have := last_figs ⟨(l.drop k).toArray⟩ _ _ (Nat.le_refl _) (Nat.le_refl _) h1 0 (by rw [List.length_drop]; omega)
      simp only [getD_dropU] at this
      rw [Nat.add_zero, hnd] at this
      cases this
  · intro h
    rw [if_pos h]
    rfl

theorem dropWhile_len {α : Type} (p : α → Bool) (l : List α) : (l.dropWhile p).length ≤ l.length := (List.dropWhile_suffix p).length_le

theorem dropWhile_self {α : Type} (p : α → Bool) : ∀ l : List α, l.dropWhile p = l ↔ (∀ x, l.head? = some x → p x = false)
  | [] => by simp
  | x :: t => by
    rw [List.dropWhile_cons]
    split
    · rename_i h
      constructor
      · intro e
        have := congrArg List.length e
        have h2 := dropWhile_len p t
        simp at this; omega
      · intro g; rw [g x rfl] at h; cases h
    · rename_i h; simpa using h

theorem trimB_self (l : List UInt8) (c : UInt8) : trimB l c = l ↔ l.head? ≠ some c ∧ l.getLast? ≠ some c := by
  have h1 : ∀ m : List UInt8, (m.dropWhile (· == c) = m) ↔ m.head? ≠ some c := fun m => by
    rw [dropWhile_self]
    constructor
    · intro h e; simpa using h c e
    · intro h x hx; rw [hx] at h; simpa using h
  unfold trimB trimLeftB
  have hlen : (trimRightB l c).length ≤ l.length := by
    unfold trimRightB
    have := dropWhile_len (· == c) l.reverse
    simpa using this
  have hr : trimRightB l c = l ↔ l.getLast? ≠ some c := by
    unfold trimRightB
    rw [List.reverse_eq_iff, h1, List.head?_reverse]
  constructor
  · intro h
    have h2 := dropWhile_len (· == c) (trimRightB l c)
    have h3 := congrArg List.length h
    have h4 : trimRightB l c = l := by
      unfold trimRightB at *
      have := List.dropWhile_suffix (l := l.reverse) (p := (· == c))
      have e := this.eq_of_length (by simp at *; omega)
      rw [e, List.reverse_reverse]
    rw [h4] at h
    exact ⟨(h1 l).1 h, hr.1 h4⟩
  · rintro ⟨g1, g2⟩
    rw [hr.2 g2]; exact (h1 l).2 g1

end Lp

/-! LpLay -/

namespace Go.Proofs
open Go.Shelf
def Tryd.lays160_ren : Go.Shelf.Ren := ⟨fun | 160 => 62 | 232 => 77 | 231 => 76 | 227 => 78 | 234 => 80 | 233 => 79 | 236 => 82 | 235 => 81 | 228 => 91 | 271 => 94 | 151 => 93 | 197 => 92 | 120 => 100 | 152 => 99 | 260 => 98 | 137 => 101 | 119 => 102 | 224 => 103 | 225 => 104 | 217 => 105 | 266 => 106 | n => n, fun | 9 => 9 | 4 => 4 | 3 => 3 | 5 => 5 | 117 => 103 | 116 => 102 | 0 => 0 | 124 => 106 | 21 => 21 | 105 => 114 | 46 => 72 | 119 => 68 | 139 => 71 | 138 => 70 | n => n, fun | 3 => 0 | 4 => 1 | n => n⟩
theorem Tryd.lays160 : Go.Proofs.Lays.n160 Tryd.prog Tryd.lays160_ren := {
  mixed := by kernel_rfl
  f119 := Tryd.func102.trans (congrArg some (by kernel_rfl))
  f120 := Tryd.func100.trans (congrArg some (by kernel_rfl))
  f137 := Tryd.func101.trans (congrArg some (by kernel_rfl))
  f151 := Tryd.func93.trans (congrArg some (by kernel_rfl))
  f152 := Tryd.func99.trans (congrArg some (by kernel_rfl))
  f160 := Tryd.func62.trans (congrArg some (by kernel_rfl))
  f197 := Tryd.func92.trans (congrArg some (by kernel_rfl))
  f217 := Tryd.func105.trans (congrArg some (by kernel_rfl))
  f224 := Tryd.func103.trans (congrArg some (by kernel_rfl))
  f225 := Tryd.func104.trans (congrArg some (by kernel_rfl))
  f227 := Tryd.func78.trans (congrArg some (by kernel_rfl))
  f228 := Tryd.func91.trans (congrArg some (by kernel_rfl))
  f231 := Tryd.func76.trans (congrArg some (by kernel_rfl))
  f232 := Tryd.func77.trans (congrArg some (by kernel_rfl))
  f233 := Tryd.func79.trans (congrArg some (by kernel_rfl))
  f234 := Tryd.func80.trans (congrArg some (by kernel_rfl))
  f235 := Tryd.func81.trans (congrArg some (by kernel_rfl))
  f236 := Tryd.func82.trans (congrArg some (by kernel_rfl))
  f260 := Tryd.func98.trans (congrArg some (by kernel_rfl))
  f266 := Tryd.func106.trans (congrArg some (by kernel_rfl))
  f271 := Tryd.func94.trans (congrArg some (by kernel_rfl))
  t0 := Tryd.underlying0
  a0 := Tryd.isAgg0
  z0 := Tryd.sizeOf0
  v0 := Tryd.zeroValue0
  t3 := Tryd.underlying3
  a3 := Tryd.isAgg3
  z3 := Tryd.sizeOf3
  v3 := Tryd.zeroValue3
  t4 := Tryd.underlying4
  a4 := Tryd.isAgg4
  z4 := Tryd.sizeOf4
  v4 := Tryd.zeroValue4
  t5 := Tryd.underlying5
  a5 := Tryd.isAgg5
  z5 := Tryd.sizeOf5
  v5 := Tryd.zeroValue5
  t9 := Tryd.underlying9
  a9 := Tryd.isAgg9
  z9 := Tryd.sizeOf9
  v9 := Tryd.zeroValue9
  t21 := Tryd.underlying21
  a21 := Tryd.isAgg21
  z21 := Tryd.sizeOf21
  v21 := Tryd.zeroValue21
  t46 := Tryd.underlying72
  a46 := Tryd.isAgg72
  z46 := Tryd.sizeOf72
  v46 := Tryd.zeroValue72
  t105 := Tryd.underlying114
  a105 := Tryd.isAgg114
  z105 := Tryd.sizeOf114
  v105 := Tryd.zeroValue114
  t116 := Tryd.underlying102
  a116 := Tryd.isAgg102
  z116 := Tryd.sizeOf102
  t117 := Tryd.underlying103
  a117 := Tryd.isAgg103
  z117 := Tryd.sizeOf103
  v117 := Tryd.zeroValue103
  t119 := Tryd.underlying68
  a119 := Tryd.isAgg68
  z119 := Tryd.sizeOf68
  t124 := Tryd.underlying106
  a124 := Tryd.isAgg106
  z124 := Tryd.sizeOf106
  v124 := Tryd.zeroValue106
  t138 := Tryd.underlying70
  a138 := Tryd.isAgg70
  z138 := Tryd.sizeOf70
  v138 := Tryd.zeroValue70
  t139 := Tryd.underlying71
  a139 := Tryd.isAgg71
  z139 := Tryd.sizeOf71
  v139 := Tryd.zeroValue71
  g3 := by kernel_rfl
  g4 := by kernel_rfl }
def Tryd.lays190_ren : Go.Shelf.Ren := ⟨fun | 190 => 45 | 125 => 57 | 258 => 56 | 128 => 72 | 129 => 73 | 302 => 63 | 303 => 64 | 304 => 65 | 305 => 66 | 306 => 67 | 307 => 68 | 308 => 69 | 309 => 70 | 310 => 71 | 333 => 83 | 329 => 84 | 330 => 85 | 334 => 86 | 335 => 87 | 336 => 88 | 344 => 95 | n => n, fun | 31 => 22 | 9 => 9 | 3 => 3 | 46 => 72 | 0 => 0 | 51 => 96 | 53 => 79 | 4 => 4 | 183 => 88 | 182 => 87 | 131 => 93 | 5 => 5 | 218 => 107 | 222 => 111 | 228 => 117 | 229 => 118 | n => n, fun | n => n⟩
theorem Tryd.lays190 : Go.Proofs.Lays.n190 Tryd.prog Tryd.lays190_ren := {
  mixed := by kernel_rfl
  f125 := Tryd.func57.trans (congrArg some (by kernel_rfl))
  f128 := Tryd.func72.trans (congrArg some (by kernel_rfl))
  f129 := Tryd.func73.trans (congrArg some (by kernel_rfl))
  f190 := Tryd.func45.trans (congrArg some (by kernel_rfl))
  f258 := Tryd.func56.trans (congrArg some (by kernel_rfl))
  f302 := Tryd.func63.trans (congrArg some (by kernel_rfl))
  f303 := Tryd.func64.trans (congrArg some (by kernel_rfl))
  f304 := Tryd.func65.trans (congrArg some (by kernel_rfl))
  f305 := Tryd.func66.trans (congrArg some (by kernel_rfl))
  f306 := Tryd.func67.trans (congrArg some (by kernel_rfl))
  f307 := Tryd.func68.trans (congrArg some (by kernel_rfl))
  f308 := Tryd.func69.trans (congrArg some (by kernel_rfl))
  f309 := Tryd.func70.trans (congrArg some (by kernel_rfl))
  f310 := Tryd.func71.trans (congrArg some (by kernel_rfl))
  f329 := Tryd.func84.trans (congrArg some (by kernel_rfl))
  f330 := Tryd.func85.trans (congrArg some (by kernel_rfl))
  f333 := Tryd.func83.trans (congrArg some (by kernel_rfl))
  f334 := Tryd.func86.trans (congrArg some (by kernel_rfl))
  f335 := Tryd.func87.trans (congrArg some (by kernel_rfl))
  f336 := Tryd.func88.trans (congrArg some (by kernel_rfl))
  f344 := Tryd.func95.trans (congrArg some (by kernel_rfl))
  t0 := Tryd.underlying0
  a0 := Tryd.isAgg0
  z0 := Tryd.sizeOf0
  v0 := Tryd.zeroValue0
  t3 := Tryd.underlying3
  a3 := Tryd.isAgg3
  z3 := Tryd.sizeOf3
  v3 := Tryd.zeroValue3
  t4 := Tryd.underlying4
  a4 := Tryd.isAgg4
  z4 := Tryd.sizeOf4
  v4 := Tryd.zeroValue4
  t5 := Tryd.underlying5
  a5 := Tryd.isAgg5
  z5 := Tryd.sizeOf5
  v5 := Tryd.zeroValue5
  t9 := Tryd.underlying9
  a9 := Tryd.isAgg9
  z9 := Tryd.sizeOf9
  v9 := Tryd.zeroValue9
  t31 := Tryd.underlying22
  a31 := Tryd.isAgg22
  z31 := Tryd.sizeOf22
  v31 := Tryd.zeroValue22
  t46 := Tryd.underlying72
  a46 := Tryd.isAgg72
  z46 := Tryd.sizeOf72
  v46 := Tryd.zeroValue72
  t51 := Tryd.underlying96
  a51 := Tryd.isAgg96
  z51 := Tryd.sizeOf96
  v51 := Tryd.zeroValue96
  t53 := Tryd.underlying79
  a53 := Tryd.isAgg79
  z53 := Tryd.sizeOf79
  v53 := Tryd.zeroValue79
  t131 := Tryd.underlying93
  a131 := Tryd.isAgg93
  z131 := Tryd.sizeOf93
  v131 := Tryd.zeroValue93
  t182 := Tryd.underlying87
  a182 := Tryd.isAgg87
  z182 := Tryd.sizeOf87
  v182 := Tryd.zeroValue87
  t183 := Tryd.underlying88
  a183 := Tryd.isAgg88
  z183 := Tryd.sizeOf88
  v183 := Tryd.zeroValue88
  t218 := Tryd.underlying107
  a218 := Tryd.isAgg107
  z218 := Tryd.sizeOf107
  v218 := Tryd.zeroValue107
  t222 := Tryd.underlying111
  a222 := Tryd.isAgg111
  z222 := Tryd.sizeOf111
  v222 := Tryd.zeroValue111
  t228 := Tryd.underlying117
  a228 := Tryd.isAgg117
  z228 := Tryd.sizeOf117
  v228 := Tryd.zeroValue117
  t229 := Tryd.underlying118
  a229 := Tryd.isAgg118
  z229 := Tryd.sizeOf118
  v229 := Tryd.zeroValue118 }
def Tryd.lays196_ren : Go.Shelf.Ren := ⟨fun | 196 => 27 | 259 => 43 | n => n, fun | 9 => 9 | 4 => 4 | 3 => 3 | 5 => 5 | 12 => 12 | 119 => 68 | 0 => 0 | 46 => 72 | 139 => 71 | 138 => 70 | 53 => 79 | n => n, fun | 3 => 0 | 4 => 1 | n => n⟩
theorem Tryd.lays196 : Go.Proofs.Lays.n196 Tryd.prog Tryd.lays196_ren := {
  mixed := by kernel_rfl
  f196 := Tryd.func27.trans (congrArg some (by kernel_rfl))
  f259 := Tryd.func43.trans (congrArg some (by kernel_rfl))
  t0 := Tryd.underlying0
  a0 := Tryd.isAgg0
  z0 := Tryd.sizeOf0
  v0 := Tryd.zeroValue0
  t3 := Tryd.underlying3
  a3 := Tryd.isAgg3
  z3 := Tryd.sizeOf3
  v3 := Tryd.zeroValue3
  t4 := Tryd.underlying4
  a4 := Tryd.isAgg4
  z4 := Tryd.sizeOf4
  v4 := Tryd.zeroValue4
  t5 := Tryd.underlying5
  a5 := Tryd.isAgg5
  z5 := Tryd.sizeOf5
  v5 := Tryd.zeroValue5
  t9 := Tryd.underlying9
  a9 := Tryd.isAgg9
  z9 := Tryd.sizeOf9
  v9 := Tryd.zeroValue9
  t12 := Tryd.underlying12
  a12 := Tryd.isAgg12
  z12 := Tryd.sizeOf12
  v12 := Tryd.zeroValue12
  t46 := Tryd.underlying72
  a46 := Tryd.isAgg72
  z46 := Tryd.sizeOf72
  v46 := Tryd.zeroValue72
  t53 := Tryd.underlying79
  a53 := Tryd.isAgg79
  z53 := Tryd.sizeOf79
  v53 := Tryd.zeroValue79
  t119 := Tryd.underlying68
  a119 := Tryd.isAgg68
  z119 := Tryd.sizeOf68
  t138 := Tryd.underlying70
  a138 := Tryd.isAgg70
  z138 := Tryd.sizeOf70
  v138 := Tryd.zeroValue70
  t139 := Tryd.underlying71
  a139 := Tryd.isAgg71
  z139 := Tryd.sizeOf71
  v139 := Tryd.zeroValue71
  g3 := by kernel_rfl
  g4 := by kernel_rfl }
def Tryd.lays237_ren : Go.Shelf.Ren := ⟨fun | 237 => 74 | 272 => 90 | 238 => 89 | 315 => 97 | 273 => 96 | 197 => 92 | 271 => 94 | 260 => 98 | 120 => 100 | n => n, fun | 9 => 9 | 40 => 99 | 4 => 4 | 3 => 3 | 105 => 114 | 21 => 21 | 0 => 0 | 5 => 5 | 119 => 68 | 46 => 72 | 139 => 71 | 138 => 70 | n => n, fun | 3 => 0 | 4 => 1 | n => n⟩
theorem Tryd.lays237 : Go.Proofs.Lays.n237 Tryd.prog Tryd.lays237_ren := {
  mixed := by kernel_rfl
  f120 := Tryd.func100.trans (congrArg some (by kernel_rfl))
  f197 := Tryd.func92.trans (congrArg some (by kernel_rfl))
  f237 := Tryd.func74.trans (congrArg some (by kernel_rfl))
  f238 := Tryd.func89.trans (congrArg some (by kernel_rfl))
  f260 := Tryd.func98.trans (congrArg some (by kernel_rfl))
  f271 := Tryd.func94.trans (congrArg some (by kernel_rfl))
  f272 := Tryd.func90.trans (congrArg some (by kernel_rfl))
  f273 := Tryd.func96.trans (congrArg some (by kernel_rfl))
  f315 := Tryd.func97.trans (congrArg some (by kernel_rfl))
  t0 := Tryd.underlying0
  a0 := Tryd.isAgg0
  z0 := Tryd.sizeOf0
  v0 := Tryd.zeroValue0
  t3 := Tryd.underlying3
  a3 := Tryd.isAgg3
  z3 := Tryd.sizeOf3
  v3 := Tryd.zeroValue3
  t4 := Tryd.underlying4
  a4 := Tryd.isAgg4
  z4 := Tryd.sizeOf4
  v4 := Tryd.zeroValue4
  t5 := Tryd.underlying5
  a5 := Tryd.isAgg5
  z5 := Tryd.sizeOf5
  v5 := Tryd.zeroValue5
  t9 := Tryd.underlying9
  a9 := Tryd.isAgg9
  z9 := Tryd.sizeOf9
  v9 := Tryd.zeroValue9
  t21 := Tryd.underlying21
  a21 := Tryd.isAgg21
  z21 := Tryd.sizeOf21
  v21 := Tryd.zeroValue21
  t40 := Tryd.underlying99
  a40 := Tryd.isAgg99
  z40 := Tryd.sizeOf99
  v40 := Tryd.zeroValue99
  t46 := Tryd.underlying72
  a46 := Tryd.isAgg72
  z46 := Tryd.sizeOf72
  v46 := Tryd.zeroValue72
  t105 := Tryd.underlying114
  a105 := Tryd.isAgg114
  z105 := Tryd.sizeOf114
  v105 := Tryd.zeroValue114
  t119 := Tryd.underlying68
  a119 := Tryd.isAgg68
  z119 := Tryd.sizeOf68
  t138 := Tryd.underlying70
  a138 := Tryd.isAgg70
  z138 := Tryd.sizeOf70
  v138 := Tryd.zeroValue70
  t139 := Tryd.underlying71
  a139 := Tryd.isAgg71
  z139 := Tryd.sizeOf71
  v139 := Tryd.zeroValue71
  g3 := by kernel_rfl
  g4 := by kernel_rfl }
def Tryd.layGrow_ren : Go.Shelf.Ren := ⟨fun | 4 => 48 | n => n, fun | 22 => 27 | 25 => 42 | 3 => 3 | 4 => 4 | 9 => 9 | 20 => 20 | 0 => 0 | n => n, fun | n => n⟩
theorem Tryd.layGrow : Go.Proofs.Lays8.n4 Tryd.prog Tryd.layGrow_ren := {
  mixed := by kernel_rfl
  f4 := ⟨Tryd.f48.name, by decide, Tryd.func48.trans (congrArg some (by kernel_rfl))⟩
  t0 := Tryd.underlying0
  a0 := Tryd.isAgg0
  z0 := Tryd.sizeOf0
  v0 := Tryd.zeroValue0
  t3 := Tryd.underlying3
  a3 := Tryd.isAgg3
  z3 := Tryd.sizeOf3
  v3 := Tryd.zeroValue3
  t4 := Tryd.underlying4
  a4 := Tryd.isAgg4
  z4 := Tryd.sizeOf4
  v4 := Tryd.zeroValue4
  t9 := Tryd.underlying9
  a9 := Tryd.isAgg9
  z9 := Tryd.sizeOf9
  v9 := Tryd.zeroValue9
  t20 := Tryd.underlying20
  a20 := Tryd.isAgg20
  z20 := Tryd.sizeOf20
  v20 := Tryd.zeroValue20
  t22 := Tryd.underlying27
  a22 := Tryd.isAgg27
  z22 := Tryd.sizeOf27
  v22 := Tryd.zeroValue27 }
end Go.Proofs

/-! LpLib -/

namespace Lp
open Go Go.Proofs Go.RowKit

set_option maxHeartbeats 4000000
set_option maxRecDepth 100000

theorem repL_of_nil {w : World} {ok : Nat → Prop} {blk : Nat → Option Nat} {args : List PV} {vs : List Value} (h : RepL (RepT w ok [] blk) args vs) : RepL (Rep w ok) args vs := h.mono fun _ _ h => repT_nil h

/-- A library function that leaves what there is, and hands back a value of no memory. -/
theorem FnSpec.of_keep {P : Program} {f : FuncId} {args : List PV} {r : PV} (hent : Enters P f)
    (h : ∀ (w : World) (vs : List Value) (ok : Nat → Prop), glob.holds w.heap → RepL (Rep w ok) args vs → Calls P f ⟨vs⟩ w fun e w' => ∃ v, e = .returned v ∧ (∀ w ok, Rep w ok r v) ∧ Below w.heap.size w w') :
    FnSpec P f args [] r [] := by
  refine ⟨hent, fun w blk vs base hb _ hargs => (h w vs _ hb.1 (repL_of_nil hargs)).mono ?_⟩
  rintro e w' ⟨v, h1, h2, h3⟩
  exact ⟨v, blk, h1, objsRel_nil, .of_rep (h2 _ _), fun b hb _ => h3.block b hb, h3.size, h3.os, h3.output⟩

/-- .. or a new row of no elements. -/
theorem FnSpec.made_empty {P : Program} {f : FuncId} {args : List PV} {ty : TypeId} {sz : Nat} (hent : Enters P f) (hty : ty ≠ MT)
    (h : ∀ (w : World) (vs : List Value) (ok : Nat → Prop), glob.holds w.heap → RepL (Rep w ok) args vs → Calls P f ⟨vs⟩ w fun e w' => ∃ v, e = .returned v ∧ Below w.heap.size w w' ∧
      (v = .slice none 0 0 ∨ ∃ g cap c, w.heap.size ≤ g ∧ v = .slice (some ⟨g, 0, none⟩) 0 cap ∧ w'.heap[g]? = some (.cells c ty (0, 0)) ∧ cap ≤ maxLen ∧ c.size = cap * sz)) :
    FnSpec P f args [] (.osl 0 0) [⟨ty, sz, [], true, 0⟩] := by
  refine ⟨hent, fun w blk vs base hb _ hargs => (h w vs _ hb.1 (repL_of_nil hargs)).mono ?_⟩
  have one : ∀ (k : Nat) (o : Obj), ([⟨ty, sz, [], true, 0⟩] : List Obj)[k]? = some o → k = 0 ∧ o = ⟨ty, sz, [], true, 0⟩ := fun k o ho => by
    match k, ho with
    | 0, ho => cases ho; exact ⟨rfl, rfl⟩
    | _ + 1, ho => simp at ho
  rintro e w' ⟨v, h1, h3, h4⟩
  rcases h4 with rfl | ⟨g, cap, c, hg, rfl, hc, hm, hs⟩
  · refine ⟨_, fun _ => none, h1, ⟨fun k o ho _ => ?_, fun k k' o o' g _ _ _ _ _ hx => (by cases hx), fun k o g _ _ hx => (by cases hx)⟩, ⟨rfl, _, rfl, Nat.le_refl _, fun _ _ => ⟨hty, ?_⟩⟩, fun b hb _ => h3.block b hb, h3.size, h3.os, h3.output⟩
    · obtain ⟨rfl, rfl⟩ := one k o ho; rfl
    · exact ⟨rfl, rfl⟩
  · refine ⟨_, fun _ => some g, h1, ⟨fun k o ho _ => ?_, fun k k' o o' g hkk ho _ ho' _ _ => ?_, fun k o g' ho _ hx hp => ?_⟩, ⟨rfl, _, rfl, Nat.le_refl _, fun _ _ => ⟨hty, ?_⟩⟩, fun b hb _ => h3.block b hb, h3.size, h3.os, h3.output⟩
    · obtain ⟨rfl, rfl⟩ := one k o ho
      exact ⟨c, by rw [hobj_ne hty]; exact hc, fits_ne hty (by simp), fun i x hx => by simp at hx⟩
    · obtain ⟨rfl, _⟩ := one k o ho
      obtain ⟨rfl, _⟩ := one k' o' ho'
      exact absurd rfl hkk
    · simp only [Option.some.injEq] at hx
      subst hx
      exact absurd hp.1 (by omega)
    · exact ⟨cap, c, rfl, hc, Nat.zero_le _, hm, hs⟩

theorem rep1 {w : World} {ok : Nat → Prop} {p : PV} {vs : List Value} (h : RepL (Rep w ok) [p] vs) : ∃ u, vs = [u] ∧ Rep w ok p u := by
  obtain ⟨hl, h⟩ := h
  match vs, hl with
  | [u], _ => exact ⟨u, rfl, h 0 _ _ rfl rfl⟩
theorem rep2 {w : World} {ok : Nat → Prop} {p q : PV} {vs : List Value} (h : RepL (Rep w ok) [p, q] vs) : ∃ u v, vs = [u, v] ∧ Rep w ok p u ∧ Rep w ok q v := by
  obtain ⟨hl, h⟩ := h
  match vs, hl with
  | [u, v], _ => exact ⟨u, v, rfl, h 0 _ _ rfl rfl, h 1 _ _ rfl rfl⟩

theorem rep_str' {w : World} {ok : Nat → Prop} {s : List UInt8} {v : Value} (h : Rep w ok (.str s) v) : v = .string ⟨⟨s⟩⟩ := by cases h; rfl
theorem rep_int' {w : World} {ok : Nat → Prop} {k : IntKind} {n : Int} {v : Value} (h : Rep w ok (.int k n) v) : v = .int k n := by cases h; rfl

theorem below_drew (w : World) : Below w.heap.size w w.drew := (Below.refl _ _).drew

/-! ### Texts -/

theorem glob_tabs {w : World} (h : glob.holds w.heap) : Lib.Utf8Tabs 0 1 w := h w rfl

theorem validString_spec (s : List UInt8) (hs : s.length ≤ 4611686018427387904) : FnSpec Tryd.prog f_unicode_utf8_ValidString [.str s] [] (.bool (utf s)) [] := by
  refine FnSpec.of_keep ⟨_, Tryd.lays196.f196, by kernel_rfl, by kernel_rfl⟩ fun w vs ok hg hr => ?_
  obtain ⟨u, rfl, h⟩ := rep1 hr
  cases rep_str' h
  refine (Any.utf8_ValidString Tryd.lays196 ⟨⟨s⟩⟩ w (by rw [Lib.size_eq]; simp; omega) (glob_tabs hg)).mono ?_
  rintro e w' ⟨h1, h2⟩
  exact ⟨_, h1, fun w ok => by rw [validD_eq]; exact .bool _, h2⟩

theorem trim0_spec (s : List UInt8) (hs : s.length ≤ 4611686018427387904) : FnSpec Tryd.prog f_strings_Trim [.str s, .str [48]] [] (.str (Lib.trimB s 48)) [] := by
  refine FnSpec.of_keep ⟨_, Tryd.lays160.f160, by kernel_rfl, by kernel_rfl⟩ fun w vs ok hg hr => ?_
  obtain ⟨u, v, rfl, h, h'⟩ := rep2 hr
  cases rep_str' h
  cases rep_str' h'
  refine (Any.strings_Trim_one Tryd.lays160 ⟨⟨s⟩⟩ 48 (by decide) w (by rw [Lib.size_eq]; simp; omega)).mono ?_
  rintro e w' ⟨h1, h2⟩
  refine ⟨_, h1, fun w ok => .str _, ?_⟩
  rcases h2 with rfl | rfl
  · exact .refl _ _
  · exact below_drew w

theorem isFigure_walk (W : World) (x : Nat) (hx : x ≤ 1114111) : Calls Tryd.prog f_num_isFigure #[.int .i32 (x : Int)] W fun e w' => e = .returned (.bool (figP x)) ∧ Below W.heap.size W w' := by
  have mixed : Tryd.prog.follows .mixedOrders = true := by kernel_rfl
  have e1 : figP x = (decide (48 ≤ (x : Int)) && decide ((x : Int) ≤ 57)) := by
    have a : decide (48 ≤ x) = decide (48 ≤ (x : Int)) := decide_eq_decide.2 (by omega)
    have b : decide (x ≤ 57) = decide ((x : Int) ≤ 57) := decide_eq_decide.2 (by omega)
    rw [figP, a, b]
  rw [e1]
  have h1 : (x : Int) < 48 ∨ 48 ≤ (x : Int) := by omega
  rcases h1 with h1 | h1
  · have h2 : ¬ (48 ≤ (x : Int)) := by omega
    rw [decide_eq_false h2]
    go_enter Tryd.func75, Tryd.ntmps75
    go_wp2
    go_ret
    exact ⟨rfl, .refl _ _⟩
  · rw [decide_eq_true h1]
    rcases (by omega : (x : Int) ≤ 57 ∨ 57 < (x : Int)) with h2 | h2
    · rw [decide_eq_true h2]
      go_enter Tryd.func75, Tryd.ntmps75
      go_wp2
      go_ret
      exact ⟨rfl, .refl _ _⟩
    · have h3 : ¬ ((x : Int) ≤ 57) := by omega
      rw [decide_eq_false h3]
      go_enter Tryd.func75, Tryd.ntmps75
      go_wp2
      go_ret
      exact ⟨rfl, .refl _ _⟩

theorem trimFig_spec (s : List UInt8) (hs : s.length ≤ 4611686018427387904) : FnSpec Tryd.prog f_strings_TrimFunc [.str s, .fn f_num_isFigure [] []] [] (.str (Lib.trimF figP ⟨⟨s⟩⟩).data.toList) [] := by
  refine FnSpec.of_keep ⟨_, Tryd.lays237.f237, by kernel_rfl, by kernel_rfl⟩ fun w vs ok hg hr => ?_
  obtain ⟨u, v, rfl, h, h'⟩ := rep2 hr
  cases rep_str' h
  have hv : v = .func (.func f_num_isFigure) #[] #[] := by
    cases h' with
    | fn _ _ _ va vc hla hlc ha hc =>
      have e1 : va = [] := List.length_eq_zero_iff.1 (by simpa using hla.symm)
      have e2 : vc = [] := List.length_eq_zero_iff.1 (by simpa using hlc.symm)
      subst e1; subst e2; rfl
  subst hv
  have eg : ∀ args w, (callFunc f_num_isFigure args).run Tryd.prog w = .ok (.enter f_num_isFigure args) w := enters_of Tryd.func75 (by kernel_rfl) rfl
  refine (Any.strings_TrimFunc_grows Tryd.lays237 f_num_isFigure #[] eg figP ⟨⟨s⟩⟩ w (by rw [Lib.size_eq]; simp; omega) (glob_tabs hg) fun W x hx _ => isFigure_walk W x hx).mono ?_
  rintro e w' ⟨h1, h2⟩
  exact ⟨_, h1, fun w ok => .str _, h2⟩

def ctrTrimFig : Ctr := fun args objs K => match args with
  | [.str s, a1] => a1 = (.fn f_num_isFigure [] []) ∧ (s.length ≤ 4611686018427387904) ∧ K (.str (Lib.trimF figP ⟨⟨s⟩⟩).data.toList) objs 0
  | _ => False
theorem ctrTrimFig_ok : CtrOk Tryd.prog f_strings_TrimFunc (ctrTrimFig) := by
  intro args objs K h
  unfold ctrTrimFig at h
  split at h
  · rename_i s a1
    obtain ⟨rfl, h1, hk⟩ := h
    exact ⟨_, _, _, .pure _ rfl (trimFig_spec s h1), hk⟩
  · exact h.elim
def ctrValidS : Ctr := fun args objs K => match args with
  | [.str s] => (s.length ≤ 4611686018427387904) ∧ K (.bool (utf s)) objs 0
  | _ => False
theorem ctrValidS_ok : CtrOk Tryd.prog f_unicode_utf8_ValidString (ctrValidS) := by
  intro args objs K h
  unfold ctrValidS at h
  split at h
  · rename_i s
    obtain ⟨h1, hk⟩ := h
    exact ⟨_, _, _, .pure _ rfl (validString_spec s h1), hk⟩
  · exact h.elim
def ctrTrim0 : Ctr := fun args objs K => match args with
  | [.str s, a1] => a1 = (.str [48]) ∧ (s.length ≤ 4611686018427387904) ∧ K (.str (Lib.trimB s 48)) objs 0
  | _ => False
theorem ctrTrim0_ok : CtrOk Tryd.prog f_strings_Trim (ctrTrim0) := by
  intro args objs K h
  unfold ctrTrim0 at h
  split at h
  · rename_i s a1
    obtain ⟨rfl, h1, hk⟩ := h
    exact ⟨_, _, _, .pure _ rfl (trim0_spec s h1), hk⟩
  · exact h.elim

theorem growV_spec (n : Int) (h0 : 0 ≤ n) (h1 : n ≤ 1000000) : FnSpec Tryd.prog f_slices_Grow_api_Val_api_Node_ [.sl 0 [] (some true), .int .i64 n] [] (.osl 0 0) [⟨t_api_Node, 6, [], true, 0⟩] := by
  obtain ⟨n, rfl⟩ : ∃ k : Nat, n = k := ⟨n.toNat, by omega⟩
  refine FnSpec.made_empty (by
    obtain ⟨nm, hn, hf⟩ := Tryd.layGrow.f4
    exact ⟨_, hf, hn, by kernel_rfl⟩) (by decide) fun w vs ok hg hr => ?_
  obtain ⟨u, v, rfl, h, h'⟩ := rep2 hr
  cases rep_int' h'
  have hu : u = .slice none 0 0 := by
    cases h with
    | slnil => rfl
    | slz _ _ hq => exact absurd rfl hq
    | sl _ _ _ hq => exact absurd rfl hq
  subst hu
  rcases Nat.eq_zero_or_pos n with h0 | h0
  · subst h0
    refine (Any8.slices_Grow_room Tryd.layGrow none 0 0 0 w (by decide) (by decide) (by decide) (by decide)).mono ?_
    rintro e w' ⟨h1, rfl⟩
    exact ⟨_, h1, .refl _ _, .inl rfl⟩
  · obtain ⟨⟨inf, hi0, hzs, hzb, hz0, _⟩, _⟩ := (hD t_api_Node).resolve_left (by simp [D_all])
    have hzs : inf.size = 6 := hzs
    have hzb : inf.bytes = 64 := hzb
    have hz0 : inf.zero = some (.agg ⟨[.int .i64 0, .int .i64 0, .string ⟨⟨[]⟩⟩, .string ⟨⟨[]⟩⟩, .bool false, .int .i64 0]⟩) := hz0
    have hge := grownCap_ge w (0 + n) 0 t_api_Node
    have hmx := grownCap_le_maxLen w (0 + n) 0 t_api_Node (by unfold maxLen; omega)
    refine (Any8.slices_Grow_grow Tryd.layGrow inf _ hi0 hz0 (by omega) none 0 0 n [] w (by decide) (by omega) (by rw [hzb]; omega) (by omega) (by simp) (fun _ => rfl) (fun a ha => by cases ha)).mono ?_
    rintro e w' ⟨h1, rfl⟩
    refine ⟨_, h1, (Below.refl w.heap.size w).drew.alloc (Nat.le_refl _) _, .inr ⟨w.heap.size, _, _, Nat.le_refl _, rfl, heap_alloc_new w.drew _, hmx, ?_⟩⟩
    simp only [Array.size_append, size_zeroCells, List.size_toArray, List.length_nil]
    have e6 : (Value.agg ⟨[.int .i64 0, .int .i64 0, .string ⟨⟨[]⟩⟩, .string ⟨⟨[]⟩⟩, .bool false, .int .i64 0]⟩).cells.size = 6 := by decide
    rw [e6]
    have et : Tryd.layGrow_ren.t 25 = t_api_Node := rfl
    rw [et]
    omega

def ctrGrowV : Ctr := fun args objs K => match args with
  | [.sl 0 [] (some true), .int .i64 n] => 0 ≤ n ∧ n ≤ 1000000 ∧ K (.osl objs.length 0) (objs ++ [⟨t_api_Node, 6, [], true, 0⟩]) 2
  | _ => False

theorem ctrGrowV_ok : CtrOk Tryd.prog f_slices_Grow_api_Val_api_Node_ ctrGrowV := by
  intro args objs K h
  unfold ctrGrowV at h
  split at h
  · rename_i n
    obtain ⟨h0, h1, hk⟩ := h
    have h := CallR.made (objs := objs) _ _ rfl (fun o ho x hx => by simp at ho; subst ho; cases hx) (growV_spec n h0 h1)
    exact ⟨_, _, _, h, by simpa [PV.shift, PV.shiftS] using hk⟩
  · exact h.elim

end Lp

/-! LpD4 -/

namespace Lp
open Go Go.Proofs

set_option maxHeartbeats 4000000
set_option maxRecDepth 20000
set_option linter.unusedSimpArgs false

theorem nodes_frz0 (v : Vl) (ver : Nat) (t : TypeId) (rest : List Obj) : frz 1 0 (⟨t, 6, v.map encN, true, ver⟩ :: rest) (.osl 0 ver) = encV v := nodes_frz v ver t rest

theorem concat_spec (l : List Vl) (hl : l.length ≤ 1000000) (hb : l.flatten.length ≤ 1000000) : FnSpec Tryd.prog f_slices_Concat_api_Val_api_Node_ [encL l] [] (encV l.flatten) [] := by
  refine k_slices_Concat_api_Val_api_Node_.pureG (T := tabL Tryd.prog [(f_slices_Grow_api_Val_api_Node_, ctrGrowV)]) 1 hD (kOk_tabL (tabOk_cons ctrGrowV_ok tabOk_nil)) hmix (by decide) fun Q hQ => ?_
  try simp only [F_all]
  simp (maxSteps := 400000) only [↓preZ, postZ, coreZ, ↓preU, postU, D_all, F_all, unR, outL, onePV, binS, ↓binS, boundR, ↓boundR, fieldOf, ↓fieldOf, boxR, allocR, newObj, zeroElem, buildSliceR, appendR, setAll, storeR, St.freeze, makeSliceR, minmaxR, makeFuncR, BEq.rfl, reduceIte, reduceCtorEq, Nat.reduceLT, Nat.reduceAdd, Nat.reduceSub, Nat.reduceMul, Nat.reduceBEq, Nat.reduceLeDiff, Int.reduceToNat, Int.reduceLE, hQ, c_slices_Concat_api_Val_api_Node_]
  refine wpc_loop (fun m S => ∃ i : Nat, i + m = l.length ∧ S = ⟨tmA 36 [(0, encL l), (3, .int .i64 ((l.take i).flatten.length : Nat)), (9, encL l), (10, .int .i64 l.length), (11, .int .i64 i)], []⟩) l.length ⟨0, by omega, ?_⟩ ?_
  · simp only [normR, keepR, Nat.reduceAdd, lkR, Nat.reduceBEq, F_all, List.map_nil]
    rfl
  rintro m S ⟨i, him, rfl⟩
  rcases Nat.lt_or_ge i l.length with h | h
  · have hlt : ((i : Int) < (l.length : Int)) = True := eq_true (by omega)
    have hgi := List.getElem?_eq_getElem h
    generalize l[i] = v at hgi
    have hs := listV_take l hgi
    have hf := flat_take l hgi
    have zi : (0 ≤ (i : Int)) = True := eq_true (by omega)
    have hs' : ((l.take (i + 1)).flatten.length : Int) = (l.take i).flatten.length + v.length := by rw [hs, List.length_append]; omega
    have hn : (((l.take i).flatten.length : Int) + v.length < 0) = False := eq_false (by omega)
    simp (maxSteps := 400000) only [↓preZ, postZ, coreZ, ↓preU, postU, D_all, F_all, unR, outL, onePV, binS, ↓binS, boundR, ↓boundR, fieldOf, ↓fieldOf, boxR, allocR, newObj, zeroElem, buildSliceR, appendR, setAll, storeR, St.freeze, makeSliceR, minmaxR, makeFuncR, BEq.rfl, reduceIte, reduceCtorEq, Nat.reduceLT, Nat.reduceAdd, Nat.reduceSub, Nat.reduceMul, Nat.reduceBEq, Nat.reduceLeDiff, Int.reduceToNat, Int.reduceLE, hQ, hlt, zi, hgi, hn]
    refine ⟨⟨by omega, by omega⟩, ⟨by omega, by omega⟩, m - 1, by omega, i + 1, by omega, ?_⟩
    rw [hs']
    rfl
  have hlt : ((i : Int) < (l.length : Int)) = False := eq_false (by omega)
  rw [List.take_of_length_le h]
  simp (maxSteps := 400000) only [↓preZ, postZ, coreZ, ↓preU, postU, D_all, F_all, unR, outL, onePV, binS, ↓binS, boundR, ↓boundR, fieldOf, ↓fieldOf, boxR, allocR, newObj, zeroElem, buildSliceR, appendR, setAll, storeR, St.freeze, makeSliceR, minmaxR, makeFuncR, BEq.rfl, reduceIte, reduceCtorEq, Nat.reduceLT, Nat.reduceAdd, Nat.reduceSub, Nat.reduceMul, Nat.reduceBEq, Nat.reduceLeDiff, Int.reduceToNat, Int.reduceLE, hQ, hlt, ↓ctrGrowV]
  refine ⟨by omega, by omega, ?_⟩
  refine wpc_loop (fun m S => ∃ i ver : Nat, i + m = l.length ∧ S = ⟨tmA 36 [(6, .osl 0 ver), (25, encL l), (26, .int .i64 l.length), (27, .int .i64 i)], [⟨t_api_Node, 6, (l.take i).flatten.map encN, true, ver⟩]⟩) l.length ⟨0, 0, by omega, ?_⟩ ?_
  · simp only [normR, keepR, Nat.reduceAdd, lkR, Nat.reduceBEq, F_all, List.map_nil]
    rfl
  rintro m' S ⟨j, ver, hjm, rfl⟩
  rcases Nat.lt_or_ge j l.length with h' | h'
  rotate_left 1
  · have hlt : ((j : Int) < (l.length : Int)) = False := eq_false (by omega)
    simp (maxSteps := 400000) only [↓preZ, postZ, coreZ, ↓preU, postU, D_all, F_all, unR, outL, onePV, binS, ↓binS, boundR, ↓boundR, fieldOf, ↓fieldOf, boxR, allocR, newObj, zeroElem, buildSliceR, appendR, setAll, storeR, St.freeze, makeSliceR, minmaxR, makeFuncR, BEq.rfl, reduceIte, reduceCtorEq, Nat.reduceLT, Nat.reduceAdd, Nat.reduceSub, Nat.reduceMul, Nat.reduceBEq, Nat.reduceLeDiff, Int.reduceToNat, Int.reduceLE, hQ, hlt]
    rw [List.take_of_length_le h']
    all_goals exact (nodes_frz l.flatten ver t_api_Node []).symm
  have hlt : ((j : Int) < (l.length : Int)) = True := eq_true (by omega)
  have hgi := List.getElem?_eq_getElem h'
  generalize l[j] = v at hgi
  have hs := listV_take l hgi
  have hf := flat_take l hgi
  have zi : (0 ≤ (j : Int)) = True := eq_true (by omega)
  simp (maxSteps := 400000) only [↓preZ, postZ, coreZ, ↓preU, postU, D_all, F_all, unR, outL, onePV, binS, ↓binS, boundR, ↓boundR, fieldOf, ↓fieldOf, boxR, allocR, newObj, zeroElem, buildSliceR, appendR, setAll, storeR, St.freeze, makeSliceR, minmaxR, makeFuncR, BEq.rfl, reduceIte, reduceCtorEq, Nat.reduceLT, Nat.reduceAdd, Nat.reduceSub, Nat.reduceMul, Nat.reduceBEq, Nat.reduceLeDiff, Int.reduceToNat, Int.reduceLE, hQ, hlt, zi, hgi, zNl, zNs]
  refine ⟨by omega, by omega, ⟨by omega, by omega⟩, m' - 1, by omega, j + 1, ver + 1, by omega, ?_⟩
  rw [hs]
  rfl

def ctrConcat : Ctr := fun args objs K => match args with
  | [a0] => ofE encL a0 (HK.mk : HK fun l => (l.length ≤ 1000000) ∧ (l.flatten.length ≤ 1000000) ∧ K (encV l.flatten) objs 0)
  | _ => False
theorem ctrConcat_ok : CtrOk Tryd.prog f_slices_Concat_api_Val_api_Node_ (ctrConcat) := by
  intro args objs K h
  unfold ctrConcat at h
  split at h
  · rename_i a0
    obtain ⟨l, rfl, h1, h2, hk⟩ := h
    exact ⟨_, _, _, .pure _ rfl (concat_spec l h1 h2), hk⟩
  · exact h.elim

theorem valList_spec (l : List Vl) (hl : l.length ≤ 1000000) (hb : l.flatten.length ≤ 1000000) : FnSpec Tryd.prog f_val_List [encL l] [] (encV (listV l)) [] := by
  refine k_val_List.pureG (T := tabL Tryd.prog [(f_slices_Concat_api_Val_api_Node_, ctrConcat)]) 1 hD (kOk_tabL (tabOk_cons ctrConcat_ok tabOk_nil)) hmix (by decide) fun Q hQ => ?_
  try simp only [F_all]
  simp (maxSteps := 400000) only [↓preZ, postZ, coreZ, ↓preU, postU, D_all, F_all, unR, outL, onePV, binS, ↓binS, boundR, ↓boundR, fieldOf, ↓fieldOf, boxR, allocR, newObj, zeroElem, buildSliceR, appendR, setAll, storeR, St.freeze, makeSliceR, minmaxR, makeFuncR, BEq.rfl, reduceIte, reduceCtorEq, Nat.reduceLT, Nat.reduceAdd, Nat.reduceSub, Nat.reduceMul, Nat.reduceBEq, Nat.reduceLeDiff, Int.reduceToNat, Int.reduceLE, hQ, c_val_List, ↓ctrConcat, zNl, zNs]
  exact ⟨hl, hb, by omega, by omega, (nodes_frz (listV l) 2 t_api_Node []).symm⟩

def ctrValList : Ctr := fun args objs K => match args with
  | [a0] => ofE encL a0 (HK.mk : HK fun l => (l.length ≤ 1000000) ∧ (l.flatten.length ≤ 1000000) ∧ K (encV (listV l)) objs 0)
  | _ => False
theorem ctrValList_ok : CtrOk Tryd.prog f_val_List (ctrValList) := by
  intro args objs K h
  unfold ctrValList at h
  split at h
  · rename_i a0
    obtain ⟨l, rfl, h1, h2, hk⟩ := h
    exact ⟨_, _, _, .pure _ rfl (valList_spec l h1 h2), hk⟩
  · exact h.elim

theorem zipT {names : List (List UInt8)} {l : List Vl} {i : Nat} {nm : List UInt8} {v : Vl} (h1 : names[i]? = some nm) (h2 : l[i]? = some v) :
    List.zipWith setN (names.take (i + 1)) (l.take (i + 1)) = List.zipWith setN (names.take i) (l.take i) ++ [setN nm v] := by
  have a := (List.getElem?_eq_some_iff.1 h1).1
  have b := (List.getElem?_eq_some_iff.1 h2).1
  rw [List.take_add_one, List.take_add_one, h1, h2, List.zipWith_append (by simp; omega)]
  rfl

theorem set_name (A : Vl) (n : Nd) (r : Vl) (nm : List UInt8) : (A.map encN ++ (n :: r).map encN).set A.length (encN { n with name := nm }) = (A ++ setN nm (n :: r)).map encN := by
  rw [List.set_append_right _ _ (by simp)]
  simp [setN]

theorem zip_flat_len (names : List (List UInt8)) (l : List Vl) : (List.zipWith setN names l).flatten.length ≤ l.flatten.length := by
  induction l generalizing names with
  | nil => simp
  | cons v l ih =>
    cases names with
    | nil => simp
    | cons nm names =>
      have := ih names
      simp only [List.zipWith_cons_cons, List.flatten_cons, List.length_append, setN_length]
      omega

/-- Nodes, owned. -/
def nodO (v : Vl) (ver : Nat) : Obj := ⟨t_api_Node, 6, v.map encN, true, ver⟩

theorem nodO_atoms (v : Vl) (ver : Nat) : ∀ x ∈ (nodO v ver).xs, ∀ p ∈ x.cells, p.atom = true := by
  intro x hx p hp
  obtain ⟨n, _, rfl⟩ := List.mem_map.1 hx
  simp only [encN, PV.cells, List.mem_cons, List.not_mem_nil, or_false] at hp
  rcases hp with rfl | rfl | rfl | rfl | rfl | rfl <;> rfl

theorem nodO_refs (v : Vl) (ver : Nat) : NoRefs [nodO v ver] := by
  intro o ho x hx c hc
  simp only [List.mem_singleton] at ho; subst ho
  exact atom_noref (nodO_atoms v ver x hx c hc)

theorem frzO_nodes (d n : Nat) (O : List Obj) (t : TypeId) (sz : Nat) (v : Vl) (ver : Nat) : frzO d n O ⟨t, sz, v.map encN, true, ver⟩ = ⟨t, sz, v.map encN, true, ver⟩ := by
  have : (v.map encN).map (PV.mapCells (frz d n O)) = v.map encN := by
    rw [List.map_map]
    exact List.map_congr_left fun x _ => rfl
  simp only [frzO, this]

theorem laid_made (names : List (List UInt8)) (l : List Vl) (hn : names.length = l.length) (hl : l.length ≤ 1000000) (hb : l.flatten.length ≤ 1000000) (hne : ∀ v ∈ l, v ≠ []) : FnSpec Tryd.prog f_val_laid [encT names, encL l] [] (.osl 0 0) [nodO (layV names l) 0] := by
  refine k_val_laid.madeG (T := tabL Tryd.prog []) 1 hD (kOk_tabL tabOk_nil) hmix fun Q hQ => ?_
  try simp only [F_all]
  simp (maxSteps := 400000) only [↓preZ, postZ, coreZ, ↓preU, postU, D_all, F_all, unR, outL, onePV, binS, ↓binS, boundR, ↓boundR, fieldOf, ↓fieldOf, boxR, allocR, newObj, zeroElem, buildSliceR, appendR, setAll, storeR, St.freeze, makeSliceR, minmaxR, makeFuncR, BEq.rfl, reduceIte, reduceCtorEq, Nat.reduceLT, Nat.reduceAdd, Nat.reduceSub, Nat.reduceMul, Nat.reduceBEq, Nat.reduceLeDiff, Int.reduceToNat, Int.reduceLE, hQ, c_val_laid, zNl, zNs]
  refine wpc_loop (fun m S => ∃ i ver : Nat, i + m = l.length ∧ S = ⟨tmA 35 [(0, encT names), (5, .osl 0 ver), (13, encL l), (14, .int .i64 l.length), (15, .int .i64 i)], [⟨t_api_Node, 6, ((⟨6, l.length, [], [], false, 0⟩ : Nd) :: (List.zipWith setN (names.take i) (l.take i)).flatten).map encN, true, ver⟩]⟩) l.length ⟨0, 1, by omega, ?_⟩ ?_
  · simp only [normR, keepR, Nat.reduceAdd, lkR, Nat.reduceBEq, F_all, List.map_nil]
    rfl
  rintro m S ⟨i, ver, him, rfl⟩
  rcases Nat.lt_or_ge i l.length with h | h
  rotate_left 1
  · have hlt : ((i : Int) < (l.length : Int)) = False := eq_false (by omega)
    simp (maxSteps := 400000) only [↓preZ, postZ, coreZ, ↓preU, postU, D_all, F_all, unR, outL, onePV, binS, ↓binS, boundR, ↓boundR, fieldOf, ↓fieldOf, boxR, allocR, newObj, zeroElem, buildSliceR, appendR, setAll, storeR, St.freeze, makeSliceR, minmaxR, makeFuncR, BEq.rfl, reduceIte, reduceCtorEq, Nat.reduceLT, Nat.reduceAdd, Nat.reduceSub, Nat.reduceMul, Nat.reduceBEq, Nat.reduceLeDiff, Int.reduceToNat, Int.reduceLE, hQ, hlt]
    rw [List.take_of_length_le h, List.take_of_length_le (by omega)]
    exact endM (k := 0) (ver := ver) rfl rfl rfl rfl (congrArg (fun o : Obj => { o with ver := 0 }) (frzO_nodes 1 1 _ t_api_Node 6 (layV names l) ver)) (nodO_refs _ 0)
  have hlt : ((i : Int) < (l.length : Int)) = True := eq_true (by omega)
  have hgi := List.getElem?_eq_getElem h
  have hgn : names[i]? = some (names[i]'(by omega)) := List.getElem?_eq_getElem (by omega)
  have hv := hne _ (List.getElem_mem h)
  generalize l[i] = v at hgi hv
  generalize names[i]'(by omega) = nm at hgn
  have hz := zipT hgn hgi
  have hf := flat_take l hgi
  have hf2 := zip_flat_len (names.take i) (l.take i)
  generalize hA : (List.zipWith setN (names.take i) (l.take i)).flatten = A at *
  obtain ⟨n, r, rfl⟩ : ∃ n r, v = n :: r := by
    cases v with
    | nil => exact absurd rfl hv
    | cons n r => exact ⟨n, r, rfl⟩
  have zi : (0 ≤ (i : Int)) = True := eq_true (by omega)
  simp (maxSteps := 400000) only [↓preZ, postZ, coreZ, ↓preU, postU, D_all, F_all, unR, outL, onePV, binS, ↓binS, boundR, ↓boundR, fieldOf, ↓fieldOf, boxR, allocR, newObj, zeroElem, buildSliceR, appendR, setAll, storeR, St.freeze, makeSliceR, minmaxR, makeFuncR, BEq.rfl, reduceIte, reduceCtorEq, Nat.reduceLT, Nat.reduceAdd, Nat.reduceSub, Nat.reduceMul, Nat.reduceBEq, Nat.reduceLeDiff, Int.reduceToNat, Int.reduceLE, hQ, hlt, zi, hgi, hgn, zNl, zNs]
  have hf3 : A.length + (r.length + 1) ≤ 1000000 := by rw [List.length_cons] at hf; omega
  refine ⟨rowA2 n r ▸ trivial, by omega, by omega, by omega, by omega, encN n, by simp, by simp [enc6], ⟨by omega, by omega⟩, m - 1, by omega, i + 1, ver + 1, by omega, ?_⟩
  rw [hz, List.flatten_append, hA, nmP]
  have := set_name A n r nm
  rw [List.map_cons] at this
  rw [this]
  simp

theorem laid_spec (names : List (List UInt8)) (l : List Vl) (hn : names.length = l.length) (hl : l.length ≤ 1000000) (hb : l.flatten.length ≤ 1000000) (hne : ∀ v ∈ l, v ≠ []) : FnSpec Tryd.prog f_val_laid [encT names, encL l] [] (encV (layV names l)) [] :=
  (laid_made names l hn hl hb hne).froze rfl rfl (nodO_refs _ 0)

def ctrLaid : Ctr := fun args objs K => match args with
  | [a0, a1] => ofE encT a0 (HK.mk : HK fun names => ofE encL a1 (HK.mk : HK fun l => (names.length = l.length) ∧ (l.length ≤ 1000000) ∧ (l.flatten.length ≤ 1000000) ∧ (∀ v ∈ l, v ≠ []) ∧ K (encV (layV names l)) objs 0))
  | _ => False
theorem ctrLaid_ok : CtrOk Tryd.prog f_val_laid (ctrLaid) := by
  intro args objs K h
  unfold ctrLaid at h
  split at h
  · rename_i a0 a1
    obtain ⟨names, rfl, l, rfl, h1, h2, h3, h4, hk⟩ := h
    exact ⟨_, _, _, .pure _ rfl (laid_spec names l h1 h2 h3 h4), hk⟩
  · exact h.elim

end Lp

/-! LpD5 -/

namespace Lp
open Go Go.Proofs

set_option maxHeartbeats 4000000
set_option maxRecDepth 20000
set_option linter.unusedSimpArgs false

theorem named_made (names : List (List UInt8)) (l : List Vl) (hn : names.length = l.length) (hl : l.length ≤ 1000000) (hb : l.flatten.length ≤ 1000000) (hne : ∀ v ∈ l, v ≠ []) : FnSpec Tryd.prog f_louperef02_named [encT names, encL l] [] (.osl 0 0) [nodO (layV names l) 0] := by
  refine k_louperef02_named.madeG (T := tabL Tryd.prog []) 1 hD (kOk_tabL tabOk_nil) hmix fun Q hQ => ?_
  try simp only [F_all]
  simp (maxSteps := 400000) only [↓preZ, postZ, coreZ, ↓preU, postU, D_all, F_all, unR, outL, onePV, binS, ↓binS, boundR, ↓boundR, fieldOf, ↓fieldOf, boxR, allocR, newObj, zeroElem, buildSliceR, appendR, setAll, storeR, St.freeze, makeSliceR, minmaxR, makeFuncR, BEq.rfl, reduceIte, reduceCtorEq, Nat.reduceLT, Nat.reduceAdd, Nat.reduceSub, Nat.reduceMul, Nat.reduceBEq, Nat.reduceLeDiff, Int.reduceToNat, Int.reduceLE, hQ, c_louperef02_named, zNl, zNs]
  refine wpc_loop (fun m S => ∃ i ver : Nat, i + m = l.length ∧ S = ⟨tmA 41 [(0, encT names), (1, encL l), (5, .osl 0 ver), (6, .int .i64 i)], [⟨t_api_Node, 6, ((⟨6, l.length, [], [], false, 0⟩ : Nd) :: (List.zipWith setN (names.take i) (l.take i)).flatten).map encN, true, ver⟩]⟩) l.length ⟨0, 1, by omega, ?_⟩ ?_ (hz := Nat.zero_le _)
  · simp only [normR, keepR, Nat.reduceAdd, lkR, Nat.reduceBEq, F_all, List.map_nil]
    rfl
  rintro m S ⟨i, ver, him, rfl⟩
  rcases Nat.lt_or_ge i l.length with h | h
  rotate_left 1
  · have hlt : ((i : Int) < (l.length : Int)) = False := eq_false (by omega)
    simp (maxSteps := 400000) only [↓preZ, postZ, coreZ, ↓preU, postU, D_all, F_all, unR, outL, onePV, binS, ↓binS, boundR, ↓boundR, fieldOf, ↓fieldOf, boxR, allocR, newObj, zeroElem, buildSliceR, appendR, setAll, storeR, St.freeze, makeSliceR, minmaxR, makeFuncR, BEq.rfl, reduceIte, reduceCtorEq, Nat.reduceLT, Nat.reduceAdd, Nat.reduceSub, Nat.reduceMul, Nat.reduceBEq, Nat.reduceLeDiff, Int.reduceToNat, Int.reduceLE, hQ, hlt]
    rw [List.take_of_length_le h, List.take_of_length_le (by omega)]
    exact endM (k := 0) (ver := ver) rfl rfl rfl rfl (congrArg (fun o : Obj => { o with ver := 0 }) (frzO_nodes 1 1 _ t_api_Node 6 (layV names l) ver)) (nodO_refs _ 0)
  have hlt : ((i : Int) < (l.length : Int)) = True := eq_true (by omega)
  have hgi := List.getElem?_eq_getElem h
  have hgn : names[i]? = some (names[i]'(by omega)) := List.getElem?_eq_getElem (by omega)
  have hv := hne _ (List.getElem_mem h)
  generalize l[i] = v at hgi hv
  generalize names[i]'(by omega) = nm at hgn
  have hz := zipT hgn hgi
  have hf := flat_take l hgi
  have hf2 := zip_flat_len (names.take i) (l.take i)
  generalize hA : (List.zipWith setN (names.take i) (l.take i)).flatten = A at *
  obtain ⟨n, r, rfl⟩ : ∃ n r, v = n :: r := by
    cases v with
    | nil => exact absurd rfl hv
    | cons n r => exact ⟨n, r, rfl⟩
  have hf3 : A.length + (r.length + 1) ≤ 1000000 := by rw [List.length_cons] at hf; omega
  have zi : (0 ≤ (i : Int)) = True := eq_true (by omega)
  have hgA : (List.map encN A ++ encN n :: List.map encN r)[A.length]? = some (encN n) := by simp
  simp (maxSteps := 400000) only [↓preZ, postZ, coreZ, ↓preU, postU, D_all, F_all, unR, outL, onePV, binS, ↓binS, boundR, ↓boundR, fieldOf, ↓fieldOf, boxR, allocR, newObj, zeroElem, buildSliceR, appendR, setAll, storeR, St.freeze, makeSliceR, minmaxR, makeFuncR, BEq.rfl, reduceIte, reduceCtorEq, Nat.reduceLT, Nat.reduceAdd, Nat.reduceSub, Nat.reduceMul, Nat.reduceBEq, Nat.reduceLeDiff, Int.reduceToNat, Int.reduceLE, hQ, hlt, zi, hgi, hgn, zNl, zNs, hgA, nodeZ, nodeW, nmP]
  have hset : ∀ hd : Nd, encN hd :: (List.map encN A ++ encN n :: List.map encN r).set A.length (encN { kind := n.kind, many := n.many, name := nm, s := n.s, neg := n.neg, e := n.e }) = (hd :: (A ++ setN nm (n :: r))).map encN := fun hd => by
    rw [List.map_cons, ← set_name]; rfl
  refine ⟨rowA2 n r ▸ trivial, by omega, by omega, by omega, by omega, by omega, by omega, ⟨by omega, by omega⟩, m - 1, by omega, i + 1, ver + 1, by omega, ?_⟩
  rw [hset, hz, List.flatten_append, hA]
  simp only [List.take_succ_cons, List.take_zero, List.map_cons (f := frzO _ _ _), List.map_nil, frzO_nodes, List.flatten_cons, List.flatten_nil, List.append_nil]
  rfl

theorem named_spec (names : List (List UInt8)) (l : List Vl) (hn : names.length = l.length) (hl : l.length ≤ 1000000) (hb : l.flatten.length ≤ 1000000) (hne : ∀ v ∈ l, v ≠ []) : FnSpec Tryd.prog f_louperef02_named [encT names, encL l] [] (encV (layV names l)) [] :=
  (named_made names l hn hl hb hne).froze rfl rfl (nodO_refs _ 0)

def ctrNamed : Ctr := fun args objs K => match args with
  | [a0, a1] => ofE encT a0 (HK.mk : HK fun names => ofE encL a1 (HK.mk : HK fun l => (names.length = l.length) ∧ (l.length ≤ 1000000) ∧ (l.flatten.length ≤ 1000000) ∧ (∀ v ∈ l, v ≠ []) ∧ K (encV (layV names l)) objs 0))
  | _ => False
theorem ctrNamed_ok : CtrOk Tryd.prog f_louperef02_named (ctrNamed) := by
  intro args objs K h
  unfold ctrNamed at h
  split at h
  · rename_i a0 a1
    obtain ⟨names, rfl, l, rfl, h1, h2, h3, h4, hk⟩ := h
    exact ⟨_, _, _, .pure _ rfl (named_spec names l h1 h2 h3 h4), hk⟩
  · exact h.elim

end Lp

/-! LpV10 -/

namespace Lp
open Go

/-- So far picked: q; which are done; how many are left. -/
structure Sel (names : List (List UInt8)) (l : List Vl) (q : Prs) (done : List Bool) (m : Nat) : Prop where
  par : names.length = l.length
  len : done.length = names.length
  cnt : q.length + m = names.length
  left : done.count false = m
  mem : ∀ x : List UInt8 × Vl, x ∈ q ↔ ∃ i : Nat, done[i]? = some true ∧ names[i]? = some x.1 ∧ l[i]? = some x.2
  rise : Rise (q.map (·.1))
  utf : ∀ x ∈ q, utf x.1 = true
  low : ∀ (i : Nat) nm, done[i]? = some false → names[i]? = some nm → ∀ x ∈ q, Op.bytesLess nm x.1 = false
  one : ∀ (i j : Nat) nm, done[i]? = some true → done[j]? = some true → names[i]? = some nm → names[j]? = some nm → i = j

theorem Sel.init (names : List (List UInt8)) (l : List Vl) (hp : names.length = l.length) : Sel names l [] (List.replicate names.length false) names.length := by
  have hno : ∀ i : Nat, (List.replicate names.length false)[i]? ≠ some true := fun i h => by
    rw [List.getElem?_replicate] at h
    split at h <;> cases h
  refine ⟨hp, by simp, by simp, by simp, fun x => ⟨fun h => (List.not_mem_nil h).elim, fun ⟨i, h, _⟩ => absurd h (hno i)⟩, List.Pairwise.nil, fun x h => (List.not_mem_nil h).elim, fun _ _ _ _ x h => (List.not_mem_nil h).elim, fun i j nm h => absurd h (hno i)⟩

/-- What is picked next is above all that is picked, if it is not the last one again. -/
theorem Sel.above {names : List (List UInt8)} {l : List Vl} {q : Prs} {done : List Bool} {m : Nat} (h : Sel names l q done m) {b : Nat} {nm : List UInt8} (hb : done[b]? = some false) (hn : names[b]? = some nm)
    (hl : ∀ x, q.getLast? = some x → x.1 ≠ nm) : ∀ x ∈ q, Op.bytesLess x.1 nm = true := by
  have hlow := h.low b nm hb hn
  rcases List.eq_nil_or_concat q with rfl | ⟨q', z, rfl⟩
  · intro x hx; cases hx
  rw [List.concat_eq_append] at *
  have hz : z ∈ q' ++ [z] := by simp
  have hzl : Op.bytesLess z.1 nm = true := by
    rcases bl_tri z.1 nm with g | g | g
    · exact g
    · exact absurd g (hl z (by simp))
    · rw [hlow z hz] at g; cases g
  intro x hx
  have hr := h.rise
  rw [List.map_append] at hr
  rcases List.mem_append.1 hx with hx | hx
  · exact bl_trans _ _ _ ((List.pairwise_append.1 hr).2.2 x.1 (List.mem_map.2 ⟨x, hx, rfl⟩) z.1 (by simp)) hzl
  · simp only [List.mem_singleton] at hx
    subst hx; exact hzl

theorem Sel.step {names : List (List UInt8)} {l : List Vl} {q : Prs} {done : List Bool} {m : Nat} (h : Sel names l q done (m + 1)) {b : Nat} {nm : List UInt8} {v : Vl} (hb : done[b]? = some false) (hn : names[b]? = some nm) (hv : l[b]? = some v)
    (hmin : ∀ (i : Nat) nm', done[i]? = some false → names[i]? = some nm' → Op.bytesLess nm' nm = false) (hu : Lp.utf nm = true) (hl : ∀ x, q.getLast? = some x → x.1 ≠ nm) :
    Sel names l (q ++ [(nm, v)]) (done.set b true) m := by
  have hbl := (List.getElem?_eq_some_iff.1 hb).1
  have hab := h.above hb hn hl
  have hset : ∀ i c, (done.set b true)[i]? = some c → (i = b ∧ c = true) ∨ (i ≠ b ∧ done[i]? = some c) := fun i c hc => by
    rw [List.getElem?_set] at hc
    split at hc
    · rename_i e
      subst e
      exact .inl ⟨rfl, by simpa [hbl] using hc.symm⟩
    · rename_i e
      exact .inr ⟨fun e' => e e'.symm, hc⟩
  have hset' : ∀ i c, i ≠ b → done[i]? = some c → (done.set b true)[i]? = some c := fun i c hi hc => by
    rw [List.getElem?_set_ne (fun e => hi e.symm)]; exact hc
  have hsb : (done.set b true)[b]? = some true := by rw [List.getElem?_set_self hbl]
  refine ⟨h.par, by simp [h.len], by have := h.cnt; simp; omega, ?_, fun x => ?_, ?_, ?_, ?_, ?_⟩
  · have h1 := h.left
    have e : done = done.take b ++ false :: done.drop (b + 1) := by
      have := List.getElem?_eq_some_iff.1 hb
      obtain ⟨_, e⟩ := this
      conv => lhs; rw [← List.take_append_drop b done, List.drop_eq_getElem_cons hbl, e]
    have e2 : done.set b true = done.take b ++ true :: done.drop (b + 1) := by
      rw [List.set_eq_take_append_cons_drop, if_pos hbl]
    rw [e2, List.count_append, List.count_cons]
    rw [e, List.count_append, List.count_cons] at h1
    simp at h1 ⊢
    omega
  · rw [List.mem_append, h.mem]
    constructor
    · rintro (⟨i, h1, h2, h3⟩ | hx)
      · have : i ≠ b := fun e => by subst e; rw [hb] at h1; cases h1
        exact ⟨i, hset' i _ this h1, h2, h3⟩
      · simp only [List.mem_singleton] at hx
        subst hx
        exact ⟨b, hsb, hn, hv⟩
    · rintro ⟨i, h1, h2, h3⟩
      rcases hset i _ h1 with ⟨rfl, _⟩ | ⟨hi, hd⟩
      · right
        rw [hn] at h2; rw [hv] at h3
        simp only [Option.some.injEq] at h2 h3
        simp [h2, h3]
      · exact .inl ⟨i, hd, h2, h3⟩
  · rw [List.map_append]
    refine List.pairwise_append.2 ⟨h.rise, by simp, fun x hx y hy => ?_⟩
    simp only [List.map_cons, List.map_nil, List.mem_singleton] at hy
    subst hy
    obtain ⟨z, hz, rfl⟩ := List.mem_map.1 hx
    exact hab z hz
  · intro x hx
    rcases List.mem_append.1 hx with hx | hx
    · exact h.utf x hx
    · simp only [List.mem_singleton] at hx
      subst hx; exact hu
  · intro i nm' h1 h2 x hx
    rcases hset i _ h1 with ⟨_, hc⟩ | ⟨hi, hd⟩
    · cases hc
    · rcases List.mem_append.1 hx with hx | hx
      · exact h.low i nm' hd h2 x hx
      · simp only [List.mem_singleton] at hx
        subst hx
        exact hmin i nm' hd h2
  · intro i j nm' h1 h2 h3 h4
    have key : ∀ k, k ≠ b → done[k]? = some true → names[k]? = some nm' → nm' ≠ nm := fun k hk hd hnk e => by
      subst e
      have hkl : k < l.length := by rw [← h.par]; exact (List.getElem?_eq_some_iff.1 hnk).1
      have := hab (nm', l[k]) ((h.mem _).2 ⟨k, hd, hnk, List.getElem?_eq_getElem hkl⟩)
      rw [bl_irrefl] at this; cases this
    rcases hset i _ h1 with ⟨rfl, _⟩ | ⟨hi, hd⟩
    · rcases hset j _ h2 with ⟨rfl, _⟩ | ⟨hj, hd'⟩
      · rfl
      · rw [hn] at h3
        simp only [Option.some.injEq] at h3
        exact absurd h3.symm (key j hj hd' h4)
    · rcases hset j _ h2 with ⟨rfl, _⟩ | ⟨hj, hd'⟩
      · rw [hn] at h4
        simp only [Option.some.injEq] at h4
        exact absurd h4.symm (key i hi hd h3)
      · exact h.one i j nm' hd hd' h3 h4

theorem Sel.all {names : List (List UInt8)} {l : List Vl} {q : Prs} {done : List Bool} (h : Sel names l q done 0) {i : Nat} (hi : i < names.length) : done[i]? = some true := by
  have h1 := List.getElem?_eq_getElem (by rw [h.len]; exact hi : i < done.length)
  rw [h1]
  cases hd : done[i]'(by rw [h.len]; exact hi) with
  | true => rfl
  | false =>
    have := h.left
    rw [List.count_eq_zero] at this
    exact absurd (by rw [← hd]; exact List.getElem_mem _) this

/-- All are picked: that is the object. -/
theorem Sel.end {names : List (List UInt8)} {l : List Vl} {q : Prs} {done : List Bool} (h : Sel names l q done 0) : namesOk names l.length = true ∧ q = srtP (names.zip l) := by
  have hq : ∀ (i : Nat) (hi : i < names.length), (names[i], l[i]'(by rw [← h.par]; exact hi)) ∈ q := fun i hi =>
    (h.mem _).2 ⟨i, h.all hi, List.getElem?_eq_getElem hi, List.getElem?_eq_getElem _⟩
  have hok : namesOk names l.length = true := by
    rw [namesOk_iff]
    refine ⟨h.par, ?_, fun x hx => ?_⟩
    · refine List.pairwise_iff_getElem.2 fun i j hi hj hij e => ?_
      have := h.one i j names[i] (h.all hi) (h.all hj) (List.getElem?_eq_getElem hi) (by rw [e]; exact List.getElem?_eq_getElem hj)
      omega
    · obtain ⟨i, hi, rfl⟩ := List.mem_iff_getElem.1 hx
      exact h.utf _ (hq i hi)
  refine ⟨hok, srtP_unique hok h.rise fun x => ?_⟩
  constructor
  · intro hx
    obtain ⟨i, _, h2, h3⟩ := (h.mem x).1 hx
    refine List.mem_iff_getElem?.2 ⟨i, ?_⟩
    rw [List.getElem?_zip_eq_some]
    exact ⟨h2, h3⟩
  · intro hx
    obtain ⟨i, hi⟩ := List.mem_iff_getElem?.1 hx
    rw [List.getElem?_zip_eq_some] at hi
    exact (h.mem x).2 ⟨i, h.all (List.getElem?_eq_some_iff.1 hi.1).1, hi.1, hi.2⟩

/-- The next one is no text: there is no object. -/
theorem not_utf {names : List (List UInt8)} {k : Nat} {b : Nat} {nm : List UInt8} (hn : names[b]? = some nm) (hu : Lp.utf nm = false) : namesOk names k = false := by
  cases hh : namesOk names k with
  | false => rfl
  | true =>
    have := (namesOk_iff.1 hh).2.2 nm (List.mem_of_getElem? hn)
    rw [hu] at this; cases this

/-- The next one is the last one again: there is no object. -/
theorem Sel.twice {names : List (List UInt8)} {l : List Vl} {q : Prs} {done : List Bool} {m : Nat} (h : Sel names l q done m) {b : Nat} {nm : List UInt8} (hb : done[b]? = some false) (hn : names[b]? = some nm) {x : List UInt8 × Vl} (hx : x ∈ q) (he : x.1 = nm) (k : Nat) : namesOk names k = false := by
  cases hh : namesOk names k with
  | false => rfl
  | true =>
    obtain ⟨i, h1, h2, _⟩ := (h.mem x).1 hx
    have hnd := (namesOk_iff.1 hh).2.1
    have hib : i ≠ b := fun e => by subst e; rw [hb] at h1; cases h1
    rw [he] at h2
    obtain ⟨hi, e1⟩ := List.getElem?_eq_some_iff.1 h2
    obtain ⟨hj, e2⟩ := List.getElem?_eq_some_iff.1 hn
    have hpw := List.pairwise_iff_getElem.1 hnd
    rcases Nat.lt_trichotomy i b with g | g | g
    · exact absurd (e1.trans e2.symm) (hpw i b hi hj g)
    · exact absurd g hib
    · exact absurd (e2.trans e1.symm) (hpw b i hj hi g)

/-- Somewhere one is left. -/
theorem Sel.some {names : List (List UInt8)} {l : List Vl} {q : Prs} {done : List Bool} {m : Nat} (h : Sel names l q done (m + 1)) : ∃ i : Nat, done[i]? = Option.some false := by
  have : 0 < done.count false := by rw [h.left]; omega
  exact List.mem_iff_getElem?.1 (List.count_pos_iff.1 this)

end Lp

/-! LpX1 -/

namespace Lp
open Go Go.Proofs

set_option maxHeartbeats 4000000
set_option maxRecDepth 20000
set_option linter.unusedSimpArgs false

section
variable {α : Type} {enc : α → PV} {sz : Nat}

def ofR (enc : α → PV) (xs : List PV) {K : List α → Prop} (_h : HK K) : Prop := ∃ l, xs = l.map enc ∧ K l

theorem ofR_eq (hi : ∀ a b, enc a = enc b → a = b) (K : List α → Prop) (l : List α) : ofR enc (l.map enc) (HK.mk : HK K) = K l := by
  refine propext ⟨fun ⟨m, h1, h2⟩ => ?_, fun h => ⟨l, rfl, h⟩⟩
  have : l = m := (List.map_inj_right (fun a b h => hi a b h)).1 h1
  subst this; exact h2

/-- A row: owned, nil, or immutable. -/
def rowX (enc : α → PV) (sz : Nat) (a : PV) (objs : List Obj) {K : List α → Prop} (_h : HK K) : Prop := match a with
  | .osl k ver => ∃ o, objs[k]? = some o ∧ o.live = true ∧ o.ver = ver ∧ o.sz = sz ∧ ofR enc o.xs (HK.mk : HK K)
  | .sl _ [] (some true) => K []
  | .sl s xs none => s = sz ∧ ofR enc xs (HK.mk : HK K)
  | _ => False

theorem rowX_cases {a : PV} {objs : List Obj} {K : List α → Prop} (hc : ∀ x, ∀ c ∈ (enc x).cells, c.ref = false) (h : rowX enc sz a objs (HK.mk : HK K)) : ∃ l a', lend objs a a' ∧ Tells a' (.sl sz (l.map enc) none) ∧ K l := by
  unfold rowX at h
  split at h
  · obtain ⟨o, h1, h2, h3, rfl, l, h4, h5⟩ := h
    refine ⟨l, .sl o.sz o.xs none, ⟨o, h1, h2, h3, fun x hx c hcc => ?_, rfl⟩, by rw [h4]; exact .refl _, h5⟩
    rw [h4] at hx
    obtain ⟨y, _, rfl⟩ := List.mem_map.1 hx
    exact hc y c hcc
  · exact ⟨[], _, ⟨rfl, rfl⟩, tells_nil _ _, h⟩
  · obtain ⟨rfl, l, rfl, h5⟩ := h
    exact ⟨l, _, ⟨rfl, rfl⟩, .refl _, h5⟩
  · exact h.elim

end

theorem lkA_mid (a b : List (Nat × PV)) (t : Nat) (p q : PV) (i : Nat) : (lkA (a ++ (t, p) :: b) i = p ∧ lkA (a ++ (t, q) :: b) i = q) ∨ lkA (a ++ (t, p) :: b) i = lkA (a ++ (t, q) :: b) i := by
  induction a with
  | nil =>
    simp only [List.nil_append, lkA]
    by_cases h : i = t
    · simp [h]
    · simp [h]
  | cons x a ih =>
    obtain ⟨j, y⟩ := x
    simp only [List.cons_append, lkA]
    by_cases h : i = j
    · simp [h]
    · simpa [h] using ih

/-- A temporary, told less exactly. -/
theorem Weak.tellA {m n : Nat} {objs : List Obj} (a b : List (Nat × PV)) (t : Nat) {p q : PV} (hp : p.pure = true) (ht : Tells p q) : Weak m ⟨tmA n (a ++ (t, p) :: b), objs⟩ ⟨tmA n (a ++ (t, q) :: b), objs⟩ := by
  intro _ _ _ blk _ _ _ R
  refine ⟨blk, ⟨R.nodef, ?_, fun i x hx => ?_, R.objs, R.pr, R.fr, R.gr, R.pb, R.ext, R.exn, R.sm, R.gl⟩⟩
  · have := R.tsz
    simp only [tmA_length] at this ⊢
    exact this
  · have hr := R.tm i
    simp only [tmA_get] at hx hr
    by_cases hi : i < n
    · simp only [hi, if_true, Option.some.injEq] at hr hx
      subst hx
      rcases lkA_mid a b t p q i with ⟨h1, h2⟩ | h
      · rw [h2]
        rw [h1] at hr
        exact .of_rep (ht _ _ _ ((hr _ rfl).rep hp))
      · rw [← h]; exact hr _ rfl
    · simp only [hi, if_false] at hx
      cases hx

theorem str_inj : ∀ a b : List UInt8, PV.str a = .str b → a = b := fun a b h => by cases h; rfl

theorem ofRB : (∀ (K : List (List UInt8) → Prop) l, ofR .str (l.map .str) (HK.mk : HK K) = K l) ∧ (∀ (K : List Vl → Prop) l, ofR encV (l.map encV) (HK.mk : HK K) = K l) := ⟨ofR_eq str_inj, ofR_eq encV_inj⟩

theorem rowB (objs : List Obj) :
    (∀ (K : List (List UInt8) → Prop) l, rowX .str 1 (encT l) objs (HK.mk : HK K) = K l) ∧ (∀ (K : List (List UInt8) → Prop) s, rowX .str 1 (.sl s [] (some true)) objs (HK.mk : HK K) = K []) ∧
    (∀ (K : List (List UInt8) → Prop) k ver, rowX .str 1 (.osl k ver) objs (HK.mk : HK K) = ∃ o, objs[k]? = some o ∧ o.live = true ∧ o.ver = ver ∧ o.sz = 1 ∧ ofR .str o.xs (HK.mk : HK K)) ∧
    (∀ (K : List Vl → Prop) l, rowX encV 1 (encL l) objs (HK.mk : HK K) = K l) ∧ (∀ (K : List Vl → Prop) s, rowX encV 1 (.sl s [] (some true)) objs (HK.mk : HK K) = K []) ∧
    (∀ (K : List Vl → Prop) k ver, rowX encV 1 (.osl k ver) objs (HK.mk : HK K) = ∃ o, objs[k]? = some o ∧ o.live = true ∧ o.ver = ver ∧ o.sz = 1 ∧ ofR encV o.xs (HK.mk : HK K)) := by
  have h1 := ofRB.1
  have h2 := ofRB.2
  refine ⟨fun K l => ?_, fun _ _ => rfl, fun _ _ _ => rfl, fun K l => ?_, fun _ _ => rfl, fun _ _ _ => rfl⟩
  · have : rowX .str 1 (encT l) objs (HK.mk : HK K) = ((1 : Nat) = 1 ∧ ofR .str (l.map .str) (HK.mk : HK K)) := by cases l <;> rfl
    rw [this, h1]; simp
  · have : rowX encV 1 (encL l) objs (HK.mk : HK K) = ((1 : Nat) = 1 ∧ ofR encV (l.map encV) (HK.mk : HK K)) := by cases l <;> rfl
    rw [this, h2]; simp

theorem strCells : ∀ x : List UInt8, ∀ c ∈ (PV.str x).cells, c.ref = false := fun x c h => by simp only [PV.cells, List.mem_singleton] at h; subst h; rfl
theorem valCells : ∀ x : Vl, ∀ c ∈ (encV x).cells, c.ref = false := fun x c h => by simp only [encV, PV.cells, List.mem_singleton] at h; subst h; rfl

theorem tells_two {a b c d : PV} (h1 : Tells a c) (h2 : Tells b d) : ∀ (i : Nat) (p q : PV), [a, b][i]? = some p → [c, d][i]? = some q → Tells p q := fun i p q hp hq => by
  match i with
  | 0 => cases hp; cases hq; exact h1
  | 1 => cases hp; cases hq; exact h2
  | _ + 2 => simp at hp

def ctrLaidA : Ctr := fun args objs K => match args with
  | [a, b] => rowX .str 1 a objs (HK.mk : HK fun names => rowX encV 1 b objs (HK.mk : HK fun l => names.length = l.length ∧ l.length ≤ 1000000 ∧ l.flatten.length ≤ 1000000 ∧ (∀ v ∈ l, v ≠ []) ∧ K (.osl objs.length 0) (objs ++ [nodO (layV names l) 0]) 2))
  | _ => False
theorem ctrLaidA_ok : CtrOk Tryd.prog f_val_laid ctrLaidA := by
  intro args objs K h
  unfold ctrLaidA at h
  split at h
  · obtain ⟨names, a', l1, t1, h⟩ := rowX_cases strCells h
    obtain ⟨l, b', l2, t2, h1, h2, h3, h4, h5⟩ := rowX_cases valCells h
    exact ⟨_, _, _, .madeL 0 _ [a', b'] ⟨l1, l2, trivial⟩ (nodO_atoms _ _) ((laid_made names l h1 h2 h3 h4).arg rfl (tells_two t1 t2)), h5⟩
  · exact h.elim

end Lp

/-! LpD6 -/

namespace Lp
open Go Go.Proofs

set_option maxHeartbeats 4000000
set_option maxRecDepth 20000
set_option linter.unusedSimpArgs false

theorem map_frz_of {α : Type} {f : PV → PV} (enc : α → PV) (h : ∀ x, (enc x).mapCells f = enc x) (l : List α) : (l.map enc).map (PV.mapCells f) = l.map enc := by
  rw [List.map_map]
  exact List.map_congr_left fun x _ => h x

def objR (names : List (List UInt8)) (l : List Vl) : PV := if namesOk names l.length then .tup [encV (objVal names l), .int .i64 0] else .tup [.sl 0 [] (some true), .int .i64 4]

def selO (q : Prs) (done : List Bool) (v1 v2 : Nat) : List Obj := [⟨t_string, 1, (q.map (·.1)).map .str, true, v1⟩, ⟨t_api_Val, 1, (q.map (·.2)).map encV, true, v2⟩, ⟨t_bool, 1, done.map .bool, true, 1⟩]

def ctrNamedA : Ctr := fun args objs K => match args with
  | [a, b] => rowX .str 1 a objs (HK.mk : HK fun names => rowX encV 1 b objs (HK.mk : HK fun l => names.length = l.length ∧ l.length ≤ 1000000 ∧ l.flatten.length ≤ 1000000 ∧ (∀ v ∈ l, v ≠ []) ∧ K (.osl objs.length 0) (objs ++ [nodO (layV names l) 0]) 2))
  | _ => False
theorem ctrNamedA_ok : CtrOk Tryd.prog f_louperef02_named ctrNamedA := by
  intro args objs K h
  unfold ctrNamedA at h
  split at h
  · obtain ⟨names, a', l1, t1, h⟩ := rowX_cases strCells h
    obtain ⟨l, b', l2, t2, h1, h2, h3, h4, h5⟩ := rowX_cases valCells h
    exact ⟨_, _, _, .madeL 0 _ [a', b'] ⟨l1, l2, trivial⟩ (nodO_atoms _ _) ((named_made names l h1 h2 h3 h4).arg rfl (tells_two t1 t2)), h5⟩
  · exact h.elim

/-- How it ends: with no object, or with a new one. -/
theorem refObject_walk (names : List (List UInt8)) (l : List Vl) (hn : names.length ≤ 1000000) (_hl : l.length ≤ 1000000) (hb : l.flatten.length ≤ 1000000) (hne : ∀ v ∈ l, v ≠ []) (htx : ∀ s ∈ names, s.length ≤ 4611686018427387904)
    (Q : Exit → St → Prop) (R : List (Nat × PV) → List Obj → Prop) (hQ : ∀ t ob, Q .ret ⟨tmA 97 t, ob⟩ = R t ob)
    (hbad : namesOk names l.length = false → ∀ t ob, lkA t 4 = .sl 0 [] (some true) → lkA t 5 = .int .i64 4 → R t ob)
    (hgood : namesOk names l.length = true → ∀ t x y z, lkA t 4 = .osl 3 0 → lkA t 5 = .int .i64 0 → R t [x, y, z, nodO (objVal names l) 0]) :
    wpc Tryd.prog D (tabL Tryd.prog [(f_louperef02_Utf, ctrUtf), (f_louperef02_named, ctrNamedA)]) c_louperef02_Object Q (startS [encT names, encL l] 97) := by
  simp only [F_all]
  by_cases hp : names.length = l.length
  rotate_left 1
  · have hl' : ((names.length : Int) = (l.length : Int)) = False := eq_false (by omega)
    have hr : namesOk names l.length = false := by simp [namesOk, hp]
    simp (maxSteps := 400000) only [↓preZ, postZ, coreZ, ↓preU, postU, D_all, F_all, unR, outL, onePV, binS, ↓binS, boundR, ↓boundR, fieldOf, ↓fieldOf, boxR, allocR, newObj, zeroElem, buildSliceR, appendR, setAll, storeR, St.freeze, makeSliceR, minmaxR, makeFuncR, BEq.rfl, reduceIte, reduceCtorEq, Nat.reduceLT, Nat.reduceAdd, Nat.reduceSub, Nat.reduceMul, Nat.reduceBEq, Nat.reduceLeDiff, Int.reduceToNat, Int.reduceLE, hQ, c_louperef02_Object, hl']
    exact hbad hr _ _ rfl rfl
  have hl' : ((names.length : Int) = (l.length : Int)) = True := eq_true (by omega)
  simp (maxSteps := 400000) only [↓preZ, postZ, coreZ, ↓preU, postU, D_all, F_all, unR, outL, onePV, binS, ↓binS, boundR, ↓boundR, fieldOf, ↓fieldOf, boxR, allocR, newObj, zeroElem, buildSliceR, appendR, setAll, storeR, St.freeze, makeSliceR, minmaxR, makeFuncR, BEq.rfl, reduceIte, reduceCtorEq, Nat.reduceLT, Nat.reduceAdd, Nat.reduceSub, Nat.reduceMul, Nat.reduceBEq, Nat.reduceLeDiff, Int.reduceToNat, Int.reduceLE, hQ, c_louperef02_Object, hl']
  refine ⟨by omega, by omega, by omega, by omega, ?_⟩
  refine wpc_loop (fun m S => ∃ (q : Prs) (done : List Bool) (v1 v2 : Nat), Sel names l q done m ∧ S = ⟨tmA 97 [(0, encT names), (1, encL l), (6, .osl 0 v1), (7, .osl 1 v2), (8, .osl 2 1)], selO q done v1 v2⟩) names.length ⟨[], List.replicate names.length false, 1, 1, Sel.init names l hp, ?_⟩ ?_
  · simp only [normR, keepR, Nat.reduceAdd, lkR, Nat.reduceBEq, F_all, List.map_nil]
    simp only [selO, List.map_nil, List.map_replicate]
  rintro m S ⟨q, done, v1, v2, hS, rfl⟩
  have hcnt := hS.cnt
  have hdl := hS.len
  cases m with
  | zero =>
    have hlt : ((q.length : Int) < (names.length : Int)) = False := eq_false (by omega)
    obtain ⟨hok, hq⟩ := hS.end
    unfold selO
    simp (maxSteps := 400000) only [↓preZ, postZ, coreZ, ↓preU, postU, D_all, F_all, unR, outL, onePV, binS, ↓binS, boundR, ↓boundR, fieldOf, ↓fieldOf, boxR, allocR, newObj, zeroElem, buildSliceR, appendR, setAll, storeR, St.freeze, makeSliceR, minmaxR, makeFuncR, BEq.rfl, reduceIte, reduceCtorEq, Nat.reduceLT, Nat.reduceAdd, Nat.reduceSub, Nat.reduceMul, Nat.reduceBEq, Nat.reduceLeDiff, Int.reduceToNat, Int.reduceLE, hQ, hlt]
    refine wpc_weak _ (Weak.refl _ _) ?_
    simp (maxSteps := 400000) only [↓preZ, postZ, coreZ, ↓preU, postU, D_all, F_all, unR, outL, onePV, binS, ↓binS, boundR, ↓boundR, fieldOf, ↓fieldOf, boxR, allocR, newObj, zeroElem, buildSliceR, appendR, setAll, storeR, St.freeze, makeSliceR, minmaxR, makeFuncR, BEq.rfl, reduceIte, reduceCtorEq, Nat.reduceLT, Nat.reduceAdd, Nat.reduceSub, Nat.reduceMul, Nat.reduceBEq, Nat.reduceLeDiff, Int.reduceToNat, Int.reduceLE, hQ, ↓ctrNamedA, rowB, ofRB]
    have hq2 : (q.map (·.2)).flatten.length ≤ 1000000 := by rw [hq, srtP_flat hp]; exact hb
    have e : layV (q.map (·.1)) (q.map (·.2)) = objVal names l := by rw [layV_mkO, hq]; simp [objVal, hok]
    rw [e]
    refine ⟨by omega, hq2, fun v hv => hne v ?_, hgood hok _ _ _ _ rfl rfl⟩
    obtain ⟨x, hx, rfl⟩ := List.mem_map.1 hv
    obtain ⟨i, _, _, h3⟩ := (hS.mem x).1 hx
    exact List.mem_of_getElem? h3
  | succ m =>
  have hlt : ((q.length : Int) < (names.length : Int)) = True := eq_true (by omega)
  unfold selO
  simp (maxSteps := 400000) only [↓preZ, postZ, coreZ, ↓preU, postU, D_all, F_all, unR, outL, onePV, binS, ↓binS, boundR, ↓boundR, fieldOf, ↓fieldOf, boxR, allocR, newObj, zeroElem, buildSliceR, appendR, setAll, storeR, St.freeze, makeSliceR, minmaxR, makeFuncR, BEq.rfl, reduceIte, reduceCtorEq, Nat.reduceLT, Nat.reduceAdd, Nat.reduceSub, Nat.reduceMul, Nat.reduceBEq, Nat.reduceLeDiff, Int.reduceToNat, Int.reduceLE, hQ, hlt]
  refine wpc_loop (fun m' S => ∃ (j : Nat) (best : Int), j + m' = names.length ∧ ((best = -1 ∧ ∀ i, i < j → done[i]? = some true) ∨ ∃ (b : Nat) (nm : List UInt8), best = b ∧ done[b]? = some false ∧ names[b]? = some nm ∧ b < j ∧ ∀ (i : Nat) (nm' : List UInt8), i < j → done[i]? = some false → names[i]? = some nm' → Op.bytesLess nm' nm = false) ∧
    S = ⟨tmA 97 [(0, encT names), (1, encL l), (6, .osl 0 v1), (7, .osl 1 v2), (8, .osl 2 1), (9, .int .i64 best), (10, .int .i64 j)], selO q done v1 v2⟩) names.length ⟨0, -1, by omega, .inl ⟨rfl, fun i h => absurd h (Nat.not_lt_zero i)⟩, ?_⟩ ?_
  · simp only [normR, keepR, Nat.reduceAdd, lkR, Nat.reduceBEq, F_all, List.map_nil]
    rfl
  rintro m' S ⟨j, best, hjm, hbest, rfl⟩
  unfold selO
  rcases Nat.lt_or_ge j names.length with h | h
  · have hlt : ((j : Int) < (names.length : Int)) = True := eq_true (by omega)
    have zj : (0 ≤ (j : Int)) = True := eq_true (by omega)
    have hgj := List.getElem?_eq_getElem h
    have hdj : done[j]? = some (done[j]'(by omega)) := List.getElem?_eq_getElem (by omega)
    generalize names[j] = nj at hgj
    generalize done[j]'(by omega) = dj at hdj
    cases dj with
    | true =>
      simp (maxSteps := 400000) only [↓preZ, postZ, coreZ, ↓preU, postU, D_all, F_all, unR, outL, onePV, binS, ↓binS, boundR, ↓boundR, fieldOf, ↓fieldOf, boxR, allocR, newObj, zeroElem, buildSliceR, appendR, setAll, storeR, St.freeze, makeSliceR, minmaxR, makeFuncR, BEq.rfl, reduceIte, reduceCtorEq, Nat.reduceLT, Nat.reduceAdd, Nat.reduceSub, Nat.reduceMul, Nat.reduceBEq, Nat.reduceLeDiff, Int.reduceToNat, Int.reduceLE, hQ, hlt, zj, hgj, hdj]
      refine ⟨by omega, ⟨by omega, by omega⟩, m' - 1, by omega, j + 1, best, by omega, ?_, ?_⟩
      · rcases hbest with ⟨rfl, hh⟩ | ⟨b, nm, rfl, h1, h2, h3, h4⟩
        · refine .inl ⟨rfl, fun i hi => ?_⟩
          rcases Nat.lt_or_ge i j with g | g
          · exact hh i g
          · have : i = j := by omega
            subst this; exact hdj
        · refine .inr ⟨b, nm, rfl, h1, h2, by omega, fun i nm' hi hd hnn => ?_⟩
          rcases Nat.lt_or_ge i j with g | g
          · exact h4 i nm' g hd hnn
          · have : i = j := by omega
            subst this; rw [hdj] at hd; cases hd
      · rfl
    | false =>
      rcases hbest with ⟨rfl, hh⟩ | ⟨b, nm, rfl, h1, h2, h3, h4⟩
      · have hm1 : ((-1 : Int) < 0) = True := eq_true (by omega)
        simp (maxSteps := 400000) only [↓preZ, postZ, coreZ, ↓preU, postU, D_all, F_all, unR, outL, onePV, binS, ↓binS, boundR, ↓boundR, fieldOf, ↓fieldOf, boxR, allocR, newObj, zeroElem, buildSliceR, appendR, setAll, storeR, St.freeze, makeSliceR, minmaxR, makeFuncR, BEq.rfl, reduceIte, reduceCtorEq, Nat.reduceLT, Nat.reduceAdd, Nat.reduceSub, Nat.reduceMul, Nat.reduceBEq, Nat.reduceLeDiff, Int.reduceToNat, Int.reduceLE, hQ, hlt, zj, hgj, hdj, hm1]
        refine ⟨by omega, ⟨by omega, by omega⟩, m' - 1, by omega, j + 1, j, by omega, .inr ⟨j, nj, rfl, hdj, hgj, by omega, fun i nm' hi hd hnn => ?_⟩, ?_⟩
        · rcases Nat.lt_or_ge i j with g | g
          · have := hh i g; rw [this] at hd; cases hd
          · have : i = j := by omega
            subst this; rw [hgj] at hnn; cases hnn; exact bl_irrefl _
        · rfl
      · have hm1 : ((b : Int) < 0) = False := eq_false (by omega)
        have zb : (0 ≤ (b : Int)) = True := eq_true (by omega)
        cases hc : Op.bytesLess nj nm
        · simp (maxSteps := 400000) only [↓preZ, postZ, coreZ, ↓preU, postU, D_all, F_all, unR, outL, onePV, binS, ↓binS, boundR, ↓boundR, fieldOf, ↓fieldOf, boxR, allocR, newObj, zeroElem, buildSliceR, appendR, setAll, storeR, St.freeze, makeSliceR, minmaxR, makeFuncR, BEq.rfl, reduceIte, reduceCtorEq, Nat.reduceLT, Nat.reduceAdd, Nat.reduceSub, Nat.reduceMul, Nat.reduceBEq, Nat.reduceLeDiff, Int.reduceToNat, Int.reduceLE, hQ, hlt, zj, hgj, hdj, hm1, zb, h2, hc]
          refine ⟨by omega, ⟨by omega, by omega⟩, m' - 1, by omega, j + 1, b, by omega, .inr ⟨b, nm, rfl, h1, h2, by omega, fun i nm' hi hd hnn => ?_⟩, ?_⟩
          · rcases Nat.lt_or_ge i j with g | g
            · exact h4 i nm' g hd hnn
            · have : i = j := by omega
              subst this; rw [hgj] at hnn; cases hnn; exact hc
          · rfl
        · simp (maxSteps := 400000) only [↓preZ, postZ, coreZ, ↓preU, postU, D_all, F_all, unR, outL, onePV, binS, ↓binS, boundR, ↓boundR, fieldOf, ↓fieldOf, boxR, allocR, newObj, zeroElem, buildSliceR, appendR, setAll, storeR, St.freeze, makeSliceR, minmaxR, makeFuncR, BEq.rfl, reduceIte, reduceCtorEq, Nat.reduceLT, Nat.reduceAdd, Nat.reduceSub, Nat.reduceMul, Nat.reduceBEq, Nat.reduceLeDiff, Int.reduceToNat, Int.reduceLE, hQ, hlt, zj, hgj, hdj, hm1, zb, h2, hc]
          refine ⟨by omega, ⟨by omega, by omega⟩, m' - 1, by omega, j + 1, j, by omega, .inr ⟨j, nj, rfl, hdj, hgj, by omega, fun i nm' hi hd hnn => ?_⟩, ?_⟩
          · rcases Nat.lt_or_ge i j with g | g
            · have := h4 i nm' g hd hnn
              cases hx : Op.bytesLess nm' nj with
              | false => rfl
              | true => rw [bl_trans _ _ _ hx hc] at this; cases this
            · have : i = j := by omega
              subst this; rw [hgj] at hnn; cases hnn; exact bl_irrefl _
          · rfl
  have hltj : ((j : Int) < (names.length : Int)) = False := eq_false (by omega)
  obtain ⟨b, nm, rfl, hbd, hbn, hbj, hmin⟩ : ∃ (b : Nat) (nm : List UInt8), best = b ∧ done[b]? = some false ∧ names[b]? = some nm ∧ b < j ∧ ∀ (i : Nat) (nm' : List UInt8), done[i]? = some false → names[i]? = some nm' → Op.bytesLess nm' nm = false := by
    rcases hbest with ⟨rfl, hh⟩ | ⟨b, nm, rfl, h1, h2, h3, h4⟩
    · obtain ⟨i, hi⟩ := hS.some
      have := hh i (by have := (List.getElem?_eq_some_iff.1 hi).1; omega)
      rw [this] at hi; cases hi
    · exact ⟨b, nm, rfl, h1, h2, h3, fun i nm' hd hnn => h4 i nm' (by have := (List.getElem?_eq_some_iff.1 hnn).1; omega) hd hnn⟩
  have zb : (0 ≤ (b : Int)) = True := eq_true (by omega)
  have hnl : nm.length ≤ 4611686018427387904 := htx nm (List.mem_of_getElem? hbn)
  cases hu : utf nm
  · skip
    simp (maxSteps := 400000) only [↓preZ, postZ, coreZ, ↓preU, postU, D_all, F_all, unR, outL, onePV, binS, ↓binS, boundR, ↓boundR, fieldOf, ↓fieldOf, boxR, allocR, newObj, zeroElem, buildSliceR, appendR, setAll, storeR, St.freeze, makeSliceR, minmaxR, makeFuncR, BEq.rfl, reduceIte, reduceCtorEq, Nat.reduceLT, Nat.reduceAdd, Nat.reduceSub, Nat.reduceMul, Nat.reduceBEq, Nat.reduceLeDiff, Int.reduceToNat, Int.reduceLE, hQ, hltj, zb, hbn, ↓ctrUtf, hu]
    exact ⟨hnl, hbad (not_utf hbn hu) _ _ rfl rfl⟩
  have hgv : l[b]? = some (l[b]'(by have := (List.getElem?_eq_some_iff.1 hbn).1; omega)) := List.getElem?_eq_getElem _
  generalize l[b]'(by have := (List.getElem?_eq_some_iff.1 hbn).1; omega) = v at hgv
  have hql : (List.map (fun x : List UInt8 × Vl => PV.str x.1) q).length = q.length := List.length_map ..
  rcases List.eq_nil_or_concat q with rfl | ⟨q', z, hqz⟩
  · have hs := hS.step hbd hbn hgv hmin hu (fun x hx => by simp at hx)
    have h00 : ((0 : Int) < ((0 : Nat) : Int)) = False := eq_false (by omega)
    simp (maxSteps := 400000) only [↓preZ, postZ, coreZ, ↓preU, postU, D_all, F_all, unR, outL, onePV, binS, ↓binS, boundR, ↓boundR, fieldOf, ↓fieldOf, boxR, allocR, newObj, zeroElem, buildSliceR, appendR, setAll, storeR, St.freeze, makeSliceR, minmaxR, makeFuncR, BEq.rfl, reduceIte, reduceCtorEq, Nat.reduceLT, Nat.reduceAdd, Nat.reduceSub, Nat.reduceMul, Nat.reduceBEq, Nat.reduceLeDiff, Int.reduceToNat, Int.reduceLE, hQ, hltj, zb, hbn, ↓ctrUtf, hu, hgv, h00, hbd]
    refine ⟨hnl, by omega, m, by omega, [(nm, v)], done.set b true, v1 + 1, v2 + 1, hs, ?_⟩
    simp [selO, PV.putCells, PV.cells]
  · have hgz : q[q.length - 1]? = some z := by rw [hqz]; simp
    have hzq : z ∈ q := List.mem_of_getElem? hgz
    have hq1 : 0 < q.length := List.length_pos_of_mem hzq
    have h0q : ((0 : Int) < (q.length : Int)) = True := eq_true (by omega)
    have t1 : ((q.length : Int) - 1).toNat = q.length - 1 := by omega
    have z1 : (0 ≤ (q.length : Int) - 1) = True := eq_true (by omega)
    by_cases he : z.1 = nm
    · have he' : (z.1 = nm) = True := eq_true he
      simp (maxSteps := 400000) only [↓preZ, postZ, coreZ, ↓preU, postU, D_all, F_all, unR, outL, onePV, binS, ↓binS, boundR, ↓boundR, fieldOf, ↓fieldOf, boxR, allocR, newObj, zeroElem, buildSliceR, appendR, setAll, storeR, St.freeze, makeSliceR, minmaxR, makeFuncR, BEq.rfl, reduceIte, reduceCtorEq, Nat.reduceLT, Nat.reduceAdd, Nat.reduceSub, Nat.reduceMul, Nat.reduceBEq, Nat.reduceLeDiff, Int.reduceToNat, Int.reduceLE, hQ, hltj, zb, hbn, ↓ctrUtf, hu, h0q, t1, z1, hgz, he']
      exact ⟨hnl, ⟨by omega, by omega⟩, by omega, hbad (hS.twice hbd hbn hzq he _) _ _ rfl rfl⟩
    · have he' : (z.1 = nm) = False := eq_false he
      have hs := hS.step hbd hbn hgv hmin hu (fun x hx => by rw [hqz] at hx; simp at hx; rw [← hx]; exact he)
      simp (maxSteps := 400000) only [↓preZ, postZ, coreZ, ↓preU, postU, D_all, F_all, unR, outL, onePV, binS, ↓binS, boundR, ↓boundR, fieldOf, ↓fieldOf, boxR, allocR, newObj, zeroElem, buildSliceR, appendR, setAll, storeR, St.freeze, makeSliceR, minmaxR, makeFuncR, BEq.rfl, reduceIte, reduceCtorEq, Nat.reduceLT, Nat.reduceAdd, Nat.reduceSub, Nat.reduceMul, Nat.reduceBEq, Nat.reduceLeDiff, Int.reduceToNat, Int.reduceLE, hQ, hltj, zb, hbn, ↓ctrUtf, hu, h0q, t1, z1, hgz, he', hgv, hbd]
      refine ⟨hnl, ⟨by omega, by omega⟩, by omega, by omega, by omega, by omega, by omega, by omega, m, by omega, q ++ [(nm, v)], done.set b true, v1 + 1, v2 + 1, hs, ?_⟩
      simp [selO, PV.putCells, PV.cells, List.map_set]

theorem endNT {d n k a b : Nat} {q : PV} {o' : Obj} {l : List (Nat × PV)} {ob : List Obj} {o : Obj} (ha : a < n) (hb : b < n) (h1 : ob[k]? = some o) (h2 : o.live = true) (h3 : lkA l a = .osl k o.ver) (h4 : lkA l b = q) (h5 : outO1 d k ⟨tmA n l, ob⟩ o = o') (h6 : NoRefs [o']) (h7 : q.atom = true) : EndN D d [.tmp a, .tmp b] [q] o' ⟨tmA n l, ob⟩ :=
  endN h1 h2 (by simp only [outL, taR2.2.1 n l a ha, taR2.2.1 n l b hb, h3, h4]) h5 h6 (by simp [h7])

theorem refObject_bad (names : List (List UInt8)) (l : List Vl) (hbad : namesOk names l.length = false) (hn : names.length ≤ 1000000) (hl : l.length ≤ 1000000) (hb : l.flatten.length ≤ 1000000) (hne : ∀ v ∈ l, v ≠ []) (htx : ∀ s ∈ names, s.length ≤ 4611686018427387904) : FnSpec Tryd.prog f_louperef02_Object [encT names, encL l] [] (.tup [.sl 0 [] (some true), .int .i64 4]) [] := by
  refine k_louperef02_Object.pureG2 (T := tabL Tryd.prog [(f_louperef02_Utf, ctrUtf), (f_louperef02_named, ctrNamedA)]) 1 hD (kOk_tabL (tabOk_cons ctrUtf_ok (tabOk_cons ctrNamedA_ok tabOk_nil))) hmix (by decide) (by decide) fun Q hQ => ?_
  try simp only [F_all]
  have h := refObject_walk names l hn hl hb hne htx Q _ hQ (fun _ t ob h1 h2 => by rw [h1, h2]; rfl) (fun h => by rw [hbad] at h; cases h)
  simp only [F_all] at h
  exact h

theorem refObject_made (names : List (List UInt8)) (l : List Vl) (hok : namesOk names l.length = true) (hn : names.length ≤ 1000000) (hl : l.length ≤ 1000000) (hb : l.flatten.length ≤ 1000000) (hne : ∀ v ∈ l, v ≠ []) (htx : ∀ s ∈ names, s.length ≤ 4611686018427387904) : FnSpec Tryd.prog f_louperef02_Object [encT names, encL l] [] (.tup [.osl 0 0, .int .i64 0]) [nodO (objVal names l) 0] := by
  refine k_louperef02_Object.madeNG (qs := [.int .i64 0]) (T := tabL Tryd.prog [(f_louperef02_Utf, ctrUtf), (f_louperef02_named, ctrNamedA)]) 1 hD (kOk_tabL (tabOk_cons ctrUtf_ok (tabOk_cons ctrNamedA_ok tabOk_nil))) hmix (by decide) fun Q hQ => ?_
  try simp only [F_all]
  have h := refObject_walk names l hn hl hb hne htx Q _ hQ (fun h => by rw [hok] at h; cases h) (fun _ t x y z h1 h2 => endNT (k := 3) (by decide) (by decide) rfl rfl h1 h2 (by simp only [outO1, nodO, frzO_nodes]) (nodO_refs _ 0) rfl)
  simp only [F_all] at h
  exact h

theorem refObject_spec (names : List (List UInt8)) (l : List Vl) (hn : names.length ≤ 1000000) (hl : l.length ≤ 1000000) (hb : l.flatten.length ≤ 1000000) (hne : ∀ v ∈ l, v ≠ []) (htx : ∀ s ∈ names, s.length ≤ 4611686018427387904) : FnSpec Tryd.prog f_louperef02_Object [encT names, encL l] [] (objR names l) [] := by
  cases hok : namesOk names l.length with
  | false => rw [show objR names l = _ from by simp only [objR, hok]; rfl]; exact refObject_bad names l hok hn hl hb hne htx
  | true =>
    have h := (refObject_made names l hok hn hl hb hne htx).froze2 rfl rfl rfl (nodO_refs _ 0)
    rw [show objR names l = .tup [encV (objVal names l), .int .i64 0] from by simp only [objR, hok]; rfl]
    exact h

theorem objR_tells (names : List (List UInt8)) (l : List Vl) : Tells (objR names l) (.tup [encV (objVal names l), .int .i64 (objErr names l)]) := by
  unfold objR objVal objErr
  split
  · exact .refl _
  · exact tells2 (.inr rfl) (tells_nil 0 6) (.refl _)

theorem refObject_spec' (names : List (List UInt8)) (l : List Vl) (hn : names.length ≤ 1000000) (hl : l.length ≤ 1000000) (hb : l.flatten.length ≤ 1000000) (hne : ∀ v ∈ l, v ≠ []) (htx : ∀ s ∈ names, s.length ≤ 4611686018427387904) :
    FnSpec Tryd.prog f_louperef02_Object [encT names, encL l] [] (.tup [encV (objVal names l), .int .i64 (objErr names l)]) [] :=
  (refObject_spec names l hn hl hb hne htx).res (objR_tells names l)

def ctrRefObject : Ctr := fun args objs K => match args with
  | [a0, a1] => ofE encT a0 (HK.mk : HK fun names => ofE encL a1 (HK.mk : HK fun l => (names.length ≤ 1000000) ∧ (l.length ≤ 1000000) ∧ (l.flatten.length ≤ 1000000) ∧ (∀ v ∈ l, v ≠ []) ∧ (∀ s ∈ names, s.length ≤ 4611686018427387904) ∧ K (.tup [encV (objVal names l), .int .i64 (objErr names l)]) objs 0))
  | _ => False
theorem ctrRefObject_ok : CtrOk Tryd.prog f_louperef02_Object (ctrRefObject) := by
  intro args objs K h
  unfold ctrRefObject at h
  split at h
  · rename_i a0 a1
    obtain ⟨names, rfl, l, rfl, h1, h2, h3, h4, h5, hk⟩ := h
    exact ⟨_, _, _, .pure _ rfl (refObject_spec' names l h1 h2 h3 h4 h5), hk⟩
  · exact h.elim
end Lp

/-! LpD9 -/

namespace Lp
open Go Go.Proofs

set_option maxHeartbeats 4000000
set_option maxRecDepth 20000
set_option linter.unusedSimpArgs false

/-- As FnOk.pureG, for two results that lie in variables. -/
theorem FnOk.pureCC {P : Program} {D : TypeId → TInfo} {T : Know} {f : FuncId} {n t u : Nat} {ty uy : TypeId} {C : LC} {args : List PV} {r : PV} (h : FnOk P f n [.cell t ty, .cell u uy] C) (d : Nat) (hD : ∀ t, TOk P t (D t)) (hT : KOk P none Etop T) (hm : P.follows .mixedOrders = true) (ht : t < n) (hu : u < n)
    (hw : ∀ Q : Exit → St → Prop, (∀ l ob, Q .ret ⟨tmA n l, ob⟩ = loadR (D ty) (lkA l t) ob fun p _ _ => loadR (D uy) (lkA l u) ob fun q _ _ => r = .tup [frzT d 0 ob p, frzT d 0 ob q]) → wpc P D T C Q (startS args n)) : FnSpec P f args [] r [] := by
  refine h.pure d hD hT hm (by simp) (hw _ fun l ob => ?_)
  simp only [retR, outL, taR2.2.1 n l t ht, taR2.2.1 n l u hu, List.map_cons, List.map_nil, onePV]

def kindV : Vl → Int
  | [] => 0
  | n :: _ => n.kind

def optV (v : Vl) (nm : List UInt8) : Option Vl := if kindV v = 6 then getP (prs v) nm else none
def fieldV (v : Vl) (nm : List UInt8) : Vl := (optV v nm).getD []
def hasV (v : Vl) (nm : List UInt8) : Bool := (optV v nm).isSome

def fieldR1 (v : Vl) (nm : List UInt8) : PV := match optV v nm with
  | some x => .tup [encV x, .bool true]
  | none => .tup [.sl 0 [] (some true), .bool false]

theorem find_hit {ps : List Vl} {nm : List UInt8} {i : Nat} {p : Vl} (h : ps[i]? = some p) (hp : nameOf p = nm) (hb : ∀ (j : Nat) q, j < i → ps[j]? = some q → nameOf q ≠ nm) : getP (ps.map fun p => (nameOf p, clr p)) nm = some (clr p) := by
  have : (ps.map fun p => (nameOf p, clr p)).find? (fun x => decide (x.1 = nm)) = some (nameOf p, clr p) := by
    rw [List.find?_eq_some_iff_getElem]
    obtain ⟨hi, he⟩ := List.getElem?_eq_some_iff.1 h
    refine ⟨by simp [hp], i, by simpa using hi, by simp [he], fun j hj => ?_⟩
    have := hb j _ hj (List.getElem?_eq_getElem (by omega))
    simpa using this
  simp [getP, this]

theorem find_none {ps : List Vl} {nm : List UInt8} (hb : ∀ (j : Nat) q, ps[j]? = some q → nameOf q ≠ nm) : getP (ps.map fun p => (nameOf p, clr p)) nm = none := by
  rw [getP_none]
  intro h
  simp only [List.map_map, List.mem_map, Function.comp] at h
  obtain ⟨p, hp, rfl⟩ := h
  obtain ⟨i, hi⟩ := List.mem_iff_getElem?.1 hp
  exact hb i p hi rfl

def fldO (nm : List UInt8) (x : PV) (b : Bool) : List Obj := [⟨t_string, 1, [.str nm], true, 1⟩, ⟨t_api_Val, 1, [x], true, 1⟩, ⟨t_bool, 1, [.bool b], true, 1⟩]

theorem NoRefs.lt {O : List Obj} (h : NoRefs O) : ObjsLt O := fun o ho x hx c hc => by
  have := h o ho x hx c hc
  cases c <;> first | rfl | (simp [PV.ref] at this)

theorem fldO_refs (nm : List UInt8) {x : PV} (b : Bool) (h1 : x.cells = [x]) (h2 : x.ref = false) : NoRefs (fldO nm x b ++ [ghA, hole]) := by
  intro o ho y hy c hc
  simp only [fldO, List.cons_append, List.nil_append, List.mem_cons, List.not_mem_nil, or_false] at ho
  rcases ho with rfl | rfl | rfl | rfl | rfl
  · simp only [List.mem_singleton] at hy; subst hy
    simp only [PV.cells, List.mem_singleton] at hc; subst hc; rfl
  · simp only [List.mem_singleton] at hy; subst hy
    rw [h1] at hc
    simp only [List.mem_singleton] at hc; subst hc; exact h2
  · simp only [List.mem_singleton] at hy; subst hy
    simp only [PV.cells, List.mem_singleton] at hc; subst hc; rfl
  · cases hy
  · cases hy

theorem fldO_gh (nm : List UInt8) {x : PV} (b : Bool) (h1 : x.cells = [x]) (h2 : x.ref = false) : Gh 3 (fldO nm x b ++ [ghA, hole]) := ⟨Nat.le_refl _, (fldO_refs nm b h1 h2).lt, rfl, rfl⟩

theorem field_spec (v : Vl) (nm : List UInt8) (hr : Rt v) (hl : v.length ≤ 1000000) : FnSpec Tryd.prog f_val_Field [encV v, .str nm] [] (fieldR1 v nm) [] := by
  refine k_val_Field.pureCC (T := tabL Tryd.prog [(f_val_each, ctrEach2)]) 1 hD (kOk_tabL (tabOk_cons ctrEach2_ok tabOk_nil)) hmix (by decide) (by decide) fun Q hQ => ?_
  try simp only [F_all]
  obtain ⟨n, r, rfl, _⟩ := nameOf_nil hr.name hr.one.ne
  generalize hv : n :: r = v at *
  have hg0 : v[0]? = some n := by rw [← hv]; rfl
  have hkv : kindV v = n.kind := by rw [← hv]; rfl
  by_cases hk : n.kind = 6
  rotate_left 1
  · have k6 : (n.kind = 6) = False := eq_false hk
    have hres : fieldR1 v nm = .tup [.sl 0 [] (some true), .bool false] := by simp [fieldR1, optV, hkv, hk]
    simp (maxSteps := 400000) only [↓preZ, postZ, coreZ, ↓preU, postU, D_all, F_all, unR, outL, onePV, binS, ↓binS, boundR, ↓boundR, fieldOf, ↓fieldOf, boxR, allocR, newObj, zeroElem, buildSliceR, appendR, setAll, storeR, St.freeze, makeSliceR, minmaxR, makeFuncR, BEq.rfl, reduceIte, reduceCtorEq, Nat.reduceLT, Nat.reduceAdd, Nat.reduceSub, Nat.reduceMul, Nat.reduceBEq, Nat.reduceLeDiff, Int.reduceToNat, Int.reduceLE, hQ, c_val_Field, hg0, k6]
    exact ⟨by decide, rfl, by decide, rfl, by rw [hres]; rfl⟩
  have k6 : (n.kind = 6) = True := eq_true hk
  obtain ⟨ps, hP, hprt, hpl, hnm, hgv⟩ := each_gives v hr hl
  have hnames : namesV v = ps.map nameOf := by
    rcases hnm with h | ⟨n', r', h1, h2⟩
    · exact h
    · rw [← hv] at h1; cases h1; exact absurd hk h2
  have hprs : prs v = ps.map fun p => (nameOf p, clr p) := by rw [prs, hnames, hP, zip_maps]
  simp (maxSteps := 400000) only [↓preZ, postZ, coreZ, ↓preU, postU, D_all, F_all, unR, outL, onePV, binS, ↓binS, boundR, ↓boundR, fieldOf, ↓fieldOf, boxR, allocR, newObj, zeroElem, buildSliceR, appendR, setAll, storeR, St.freeze, makeSliceR, minmaxR, makeFuncR, BEq.rfl, reduceIte, reduceCtorEq, Nat.reduceLT, Nat.reduceAdd, Nat.reduceSub, Nat.reduceMul, Nat.reduceBEq, Nat.reduceLeDiff, Int.reduceToNat, Int.reduceLE, hQ, c_val_Field, hg0, k6, ↓ctrEach2]
  refine wpc_rf2 f_val_each_1 [.addr (encV v)] (ps.map rowOf)
    (fun i O => (∀ (j : Nat) q, j < i → ps[j]? = some q → nameOf q ≠ nm) ∧ i ≤ ps.length ∧ O = fldO nm (.sl 0 [] (some true)) false ++ [ghA, hole])
    (fun i O => ∃ p, ps[i]? = some p ∧ nameOf p = nm ∧ (∀ (j : Nat) q, j < i → ps[j]? = some q → nameOf q ≠ nm) ∧ O = fldO nm (encV (clr p)) true ++ [ghA, hole]) .ret rfl rfl rfl rfl trivial hgv (rowOf_len ps) ⟨fun j q h => absurd h (Nat.not_lt_zero j), Nat.zero_le _, rfl⟩ ?_ ?_ ?_ ?_ ?_
  · rintro i O ⟨_, _, rfl⟩
    exact fldO_gh nm false rfl rfl
  · rintro i O ⟨p, _, _, _, rfl⟩
    exact ⟨fldO_gh nm true rfl rfl, fldO_refs nm true rfl rfl⟩
  · rintro i args O ⟨hb, hi, rfl⟩ ha
    obtain ⟨p, hpi, rfl⟩ := rowOf_get ha
    have hil := (List.getElem?_eq_some_iff.1 hpi).1
    unfold fldO
    by_cases he : nameOf p = nm
    · have he' : (nameOf p = nm) = True := eq_true he
      simp (maxSteps := 400000) only [↓preZ, postZ, coreZ, ↓preU, postU, D_all, F_all, unR, outL, onePV, binS, ↓binS, boundR, ↓boundR, fieldOf, ↓fieldOf, boxR, allocR, newObj, zeroElem, buildSliceR, appendR, setAll, storeR, St.freeze, makeSliceR, minmaxR, makeFuncR, BEq.rfl, reduceIte, reduceCtorEq, Nat.reduceLT, Nat.reduceAdd, Nat.reduceSub, Nat.reduceMul, Nat.reduceBEq, Nat.reduceLeDiff, Int.reduceToNat, Int.reduceLE, hQ, setL, knI, he']
      exact ⟨rfl, p, hpi, he, hb, rfl⟩
    · have he' : (nameOf p = nm) = False := eq_false he
      simp (maxSteps := 400000) only [↓preZ, postZ, coreZ, ↓preU, postU, D_all, F_all, unR, outL, onePV, binS, ↓binS, boundR, ↓boundR, fieldOf, ↓fieldOf, boxR, allocR, newObj, zeroElem, buildSliceR, appendR, setAll, storeR, St.freeze, makeSliceR, minmaxR, makeFuncR, BEq.rfl, reduceIte, reduceCtorEq, Nat.reduceLT, Nat.reduceAdd, Nat.reduceSub, Nat.reduceMul, Nat.reduceBEq, Nat.reduceLeDiff, Int.reduceToNat, Int.reduceLE, hQ, setL, knI, he']
      refine ⟨fun j q hj hq => ?_, by omega, rfl⟩
      rcases Nat.lt_or_ge j i with g | g
      · exact hb j q g hq
      · have : j = i := by omega
        subst this
        rw [hpi] at hq; cases hq; exact he
  · rintro O ⟨hb, hi, rfl⟩
    unfold fldO
    simp (maxSteps := 400000) only [↓preZ, postZ, coreZ, ↓preU, postU, D_all, F_all, unR, outL, onePV, binS, ↓binS, boundR, ↓boundR, fieldOf, ↓fieldOf, boxR, allocR, newObj, zeroElem, buildSliceR, appendR, setAll, storeR, St.freeze, makeSliceR, minmaxR, makeFuncR, BEq.rfl, reduceIte, reduceCtorEq, Nat.reduceLT, Nat.reduceAdd, Nat.reduceSub, Nat.reduceMul, Nat.reduceBEq, Nat.reduceLeDiff, Int.reduceToNat, Int.reduceLE, hQ]
    have hres : fieldR1 v nm = .tup [.sl 0 [] (some true), .bool false] := by
      have : getP (prs v) nm = none := by
        rw [hprs]
        refine find_none fun j q hq => hb j q ?_ hq
        rw [List.length_map]
        exact (List.getElem?_eq_some_iff.1 hq).1
      simp [fieldR1, optV, this]
    exact ⟨by decide, rfl, by decide, rfl, by rw [hres]; rfl⟩
  · rintro i O hi ⟨p, hpi, he, hb, rfl⟩
    unfold fldO
    simp (maxSteps := 400000) only [↓preZ, postZ, coreZ, ↓preU, postU, D_all, F_all, unR, outL, onePV, binS, ↓binS, boundR, ↓boundR, fieldOf, ↓fieldOf, boxR, allocR, newObj, zeroElem, buildSliceR, appendR, setAll, storeR, St.freeze, makeSliceR, minmaxR, makeFuncR, BEq.rfl, reduceIte, reduceCtorEq, Nat.reduceLT, Nat.reduceAdd, Nat.reduceSub, Nat.reduceMul, Nat.reduceBEq, Nat.reduceLeDiff, Int.reduceToNat, Int.reduceLE, hQ]
    have hres : fieldR1 v nm = .tup [encV (clr p), .bool true] := by
      have : getP (prs v) nm = some (clr p) := by rw [hprs]; exact find_hit hpi he hb
      simp [fieldR1, optV, hkv, hk, this]
    rw [hres]
    exact ⟨_, _, rfl, rfl, rfl, rfl, Nat.le_refl _, rfl, _, _, rfl, rfl, rfl, rfl, Nat.le_refl _, rfl, rfl⟩
theorem fieldR1_tells (v : Vl) (nm : List UInt8) : Tells (fieldR1 v nm) (.tup [encV (fieldV v nm), .bool (hasV v nm)]) := by
  unfold fieldR1 fieldV hasV
  split
  · rename_i x h; rw [h]; exact .refl _
  · rename_i h; rw [h]; exact tells2 (.inr rfl) (tells_nil 0 6) (.refl _)

theorem field_spec' (v : Vl) (nm : List UInt8) (hr : Rt v) (hl : v.length ≤ 1000000) : FnSpec Tryd.prog f_val_Field [encV v, .str nm] [] (.tup [encV (fieldV v nm), .bool (hasV v nm)]) [] := (field_spec v nm hr hl).res (fieldR1_tells v nm)

def ctrValField : Ctr := fun args objs K => match args with
  | [a0, .str nm] => ofE encV a0 (HK.mk : HK fun v => (Rt v) ∧ (v.length ≤ 1000000) ∧ K (.tup [encV (fieldV v nm), .bool (hasV v nm)]) objs 0)
  | _ => False
theorem ctrValField_ok : CtrOk Tryd.prog f_val_Field (ctrValField) := by
  intro args objs K h
  unfold ctrValField at h
  split at h
  · rename_i a0 nm
    obtain ⟨v, rfl, h1, h2, hk⟩ := h
    exact ⟨_, _, _, .pure _ rfl (field_spec' v nm h1 h2), hk⟩
  · exact h.elim
end Lp

/-! LpD10 -/

namespace Lp
open Go Go.Proofs Go.RowKit Go.Sort

set_option maxHeartbeats 4000000
set_option maxRecDepth 100000

def sortS (ss : List (List UInt8)) : List (List UInt8) := ss.mergeSort fun x y => decide (x ≤ y)

theorem sortS_length (ss : List (List UInt8)) : (sortS ss).length = ss.length := List.length_mergeSort _

theorem oneT {R : PV → Value → Prop} {p : PV} {vs : List Value} (h : RepL R [p] vs) : ∃ u, vs = [u] ∧ R p u := by
  obtain ⟨hl, h⟩ := h
  match vs, hl with
  | [u], _ => exact ⟨u, rfl, h 0 _ _ rfl rfl⟩

theorem frozen_row' {w : World} {g : Nat} {cur : Array Value} {t : TypeId} (hg : w.heap[g]? = some (.cells cur t (0, 0))) (o : Nat) : w.frozen? ⟨g, o, none⟩ = false := by
  simp [World.frozen?, hg]

theorem set_eqk {α : Type} {l : List α} {k : Nat} {x : α} (h : l[k]? = some x) : l.set k x = l := by
  refine List.ext_getElem? fun i => ?_
  rw [List.getElem?_set]
  split
  · rename_i e
    subst e
    rw [if_pos (List.getElem?_eq_some_iff.1 h).1, h]
  · rfl

theorem sort_use {objs : List Obj} {k ver : Nat} (ss : List (List UInt8)) (h1 : objs[k]? = some ⟨t_string, 1, ss.map .str, true, ver⟩) (hl : ss.length ≤ 1000000) :
    FnUse Tryd.prog f_slices_Sort_L_string_string_ [.osl k ver] objs (.tup []) (objs.set k ⟨t_string, 1, (sortS ss).map .str, true, ver⟩) := by
  refine ⟨⟨_, Tryd.lays190.f190, by kernel_rfl, by kernel_rfl⟩, by simp, fun base prot w0 tmps blk a w vs R hargs => ?_⟩
  obtain ⟨u, rfl, r⟩ := oneT hargs
  have hh := r.osl h1 rfl rfl
  have hob := R.objs.ob k _ h1 rfl
  unfold Hdr at hh
  unfold ObjRep at hob
  cases hb : blk k with
  | none =>
    rw [hb] at hh
    obtain ⟨rfl, hx⟩ := hh
    have hx' : ss.map PV.str = [] := hx
    have hs : ss = [] := List.map_eq_nil_iff.1 hx'
    subst hs
    refine (Any.slices_Sort_string_none Tryd.lays190 none 0 w).mono ?_
    rintro e w' ⟨h2, rfl⟩
    have hs0 : sortS [] = [] := List.mergeSort_nil
    have hset : objs.set k ⟨t_string, 1, (sortS []).map .str, true, ver⟩ = objs := by rw [hs0]; exact set_eqk h1
    rw [hset]
    exact ⟨_, blk, h2, R, ⟨[], rfl, rfl, fun i p v h => by simp at h⟩⟩
  | some g =>
    rw [hb] at hh hob
    obtain ⟨cap, c, hv, hc, h3, h4, h5⟩ := hh
    obtain ⟨c', hc', _, hcell⟩ := hob
    obtain ⟨_, ec, _, _⟩ := hobj_cells (hc'.symm.trans hc |> Option.some.inj)
    rw [ec] at hcell
    clear hc' ec
    have hv2 : u = .slice (some ⟨g, 0, none⟩) ss.length cap := by rw [hv]; simp
    clear hv
    subst hv2
    simp only [Nat.mul_one] at h5
    have hg := (Array.getElem?_eq_some_iff.1 hc).1
    have hsl : (ss.map PV.str).length = ss.length := List.length_map ..
    have hcl : ∀ (j : Nat) (x : List UInt8), ss[j]? = some x → c[j]? = some (encStr x) := fun j x hx => by
      obtain ⟨_, h⟩ := hcell j (.str x) (by simp only [List.getElem?_map, hx]; rfl)
      obtain ⟨v, h6, h7⟩ := h 0 (.str x) rfl
      cases h7
      simpa using h6
    have hH : Holds encStr w g 0 ss.toArray := fun j hj => by
      have hj' : j < ss.length := by simpa using hj
      refine ⟨?_, frozen_row' hc _⟩
      have e := hcl j ss[j] (List.getElem?_eq_getElem hj')
      have e2 : ss.toArray[j]! = ss[j] := by rw [getElem!_pos _ j (by simpa using hj')]; simp
      rw [e2, Nat.zero_add]
      simp only [World.cell?, hc]
      exact e
    refine (Any.slices_Sort_string Tryd.lays190 g 0 cap ss w hH hg (by omega)).mono ?_
    rintro e W ⟨h6, n, os, hW⟩
    have hW : W = grow (putRow encStr (ahead w n) g 0 (sortS ss).toArray) os := hW
    have h3' : ss.length ≤ cap := by simpa using h3
    have hsz : (sortS ss).length ≤ c.size := by rw [sortS_length]; omega
    have hheap : W.heap[g]? = some (.cells (putCells encStr 0 (sortS ss).toArray c) t_string (0, 0)) := by
      rw [hW]
      simp only [grow, putRow, mapBlock, heap_ahead]
      rw [Array.getElem?_append_left (by simpa using hg), Array.getElem?_modify, if_pos rfl, hc]
      rfl
    have hoth : ∀ b z, g ≠ b → w.heap[b]? = some z → W.heap[b]? = some z := fun b z hb hz => by
      rw [hW]
      have hbl := (Array.getElem?_eq_some_iff.1 hz).1
      simp only [grow, putRow, mapBlock, heap_ahead]
      rw [Array.getElem?_append_left (by simpa using hbl), Array.getElem?_modify, if_neg hb, hz]
    have hput : ∀ (j : Nat) (x : List UInt8), (sortS ss)[j]? = some x → (putCells encStr 0 (sortS ss).toArray c)[j]? = some (encStr x) := fun j x hx => by
      have hj := (List.getElem?_eq_some_iff.1 hx).1
      unfold putCells
      rw [Array.getElem?_mapIdx, Array.getElem?_eq_getElem (by omega : j < c.size)]
      simp only [Option.map_some, Nat.zero_le, true_and, Nat.zero_add, List.size_toArray, hj, if_true, Nat.sub_zero]
      rw [getElem!_pos _ j (by simpa using hj)]
      obtain ⟨_, rfl⟩ := List.getElem?_eq_some_iff.1 hx
      simp
    have hWs : w.heap.size ≤ W.heap.size := by rw [hW]; simp [grow]
    have hWo : W.os = w.os ∧ W.output = w.output := by rw [hW]; exact ⟨rfl, rfl⟩
    refine ⟨_, blkAdd blk k (blk k), h6, ?_, ⟨[], rfl, rfl, fun i p v h => by simp at h⟩⟩
    refine R.setObj (o' := ⟨t_string, 1, (sortS ss).map .str, true, ver⟩) hWo h1 rfl rfl hWs ?_ (fun g' hg' => .inl hg') (Nat.le_refl _) ?_ ?_
    · intro b z hbz hz
      exact hoth b z (fun e => hbz (by rw [hb, e])) hz
    · intro _
      refine ⟨rfl, rfl, rfl, fun _ => by simp [sortS_length], fun g' c' hg' hc' => ?_⟩
      rw [hb] at hg'; cases hg'
      rw [hc] at hc'; cases hc'
      exact ⟨_, hheap, by unfold putCells; simp⟩
    · intro hmono
      unfold ObjRep
      have hbk : blkAdd blk k (blk k) k = some g := by unfold blkAdd; rw [if_pos rfl, hb]
      rw [hbk]
      have hMT : t_string ≠ MT := by decide
      refine ⟨_, (by rw [hobj_ne hMT]; exact hheap), fits_ne hMT (by simp [putCells, sortS_length]; omega), fun i' x' hx' => ?_⟩
      rw [List.getElem?_map] at hx'
      cases hi : (sortS ss)[i']? with
      | none => rw [hi] at hx'; simp at hx'
      | some x =>
        rw [hi] at hx'
        simp only [Option.map_some, Option.some.injEq] at hx'
        subst hx'
        refine ⟨rfl, fun j p hp => ?_⟩
        match j, hp with
        | 0, hp =>
          cases hp
          exact ⟨_, by simpa using hput i' x hi, .of_rep (.str x)⟩
        | _ + 1, hp => simp [PV.cells] at hp
end Lp

/-! LpD11 -/

namespace Lp
open Go Go.Proofs Go.RowKit

set_option maxHeartbeats 4000000
set_option maxRecDepth 20000
set_option linter.unusedSimpArgs false

theorem lt_bl : ∀ x y : List UInt8, x < y ↔ Op.bytesLess x y = true
  | [], [] => by simp [Op.bytesLess]
  | [], b :: y => by simp [Op.bytesLess]
  | a :: x, [] => by simp [Op.bytesLess]
  | a :: x, b :: y => by
    have ih := lt_bl x y
    rw [List.cons_lt_cons_iff, ih]
    simp only [Op.bytesLess]
    by_cases h1 : a < b
    · simp [h1]
    · by_cases h2 : a = b
      · subst h2; simp [h1]
      · simp [h1, h2]

theorem le_bl (x y : List UInt8) : decide (x ≤ y) = !Op.bytesLess y x := by
  have : x ≤ y ↔ ¬ y < x := Iff.rfl
  rw [Bool.eq_iff_iff, decide_eq_true_iff, this, lt_bl]
  simp

theorem sortS_perm (ss : List (List UInt8)) : (sortS ss).Perm ss := List.mergeSort_perm ..

theorem sortS_rise {ss : List (List UInt8)} (h : ss.Nodup) : Rise (sortS ss) := by
  have h1 : (sortS ss).Pairwise fun x y => decide (x ≤ y) = true := List.pairwise_mergeSort
    (fun a b c h1 h2 => by
      rw [le_bl, Bool.not_eq_true'] at *
      cases h : Op.bytesLess c a with
      | false => rfl
      | true =>
        rcases bl_tri a b with g | g | g
        · rw [bl_trans _ _ _ h g] at h2; cases h2
        · subst g; rw [h] at h2; cases h2
        · rw [g] at h1; cases h1)
    (fun a b => by
      rw [le_bl, le_bl]
      cases h : Op.bytesLess b a with
      | false => rfl
      | true => rw [bl_asymm _ _ h]; rfl) ss
  have h2 : (sortS ss).Nodup := (sortS_perm ss).nodup_iff.2 h
  refine List.Pairwise.imp ?_ (h1.and h2)
  rintro a b ⟨h3, h4⟩
  rw [le_bl] at h3
  rcases bl_tri a b with g | g | g
  · exact g
  · exact absurd g h4
  · rw [g] at h3; cases h3

theorem values_spec (l : List (List UInt8)) : FnSpec Tryd.prog f_slices_Values_L_string_string_ [encT l] [] (.fn f_slices_Values_L_string_string__1 [] [.addr (encT l)]) [] := by
  refine k_slices_Values_L_string_string_.pureG (T := tabL Tryd.prog []) 1 hD (kOk_tabL tabOk_nil) hmix (by decide) fun Q hQ => ?_
  try simp only [F_all]
  simp (maxSteps := 400000) only [↓preZ, postZ, coreZ, ↓preU, postU, D_all, F_all, unR, outL, onePV, binS, ↓binS, boundR, ↓boundR, fieldOf, ↓fieldOf, boxR, allocR, newObj, zeroElem, buildSliceR, appendR, setAll, storeR, St.freeze, makeSliceR, minmaxR, makeFuncR, BEq.rfl, reduceIte, reduceCtorEq, Nat.reduceLT, Nat.reduceAdd, Nat.reduceSub, Nat.reduceMul, Nat.reduceBEq, Nat.reduceLeDiff, Int.reduceToNat, Int.reduceLE, hQ, c_slices_Values_L_string_string_]
  rfl

/-- What ranges over texts. -/
def encSeq (l : List (List UInt8)) : PV := .fn f_slices_Values_L_string_string__1 [] [.addr (encT l)]
theorem encSeq_inj : ∀ a b, encSeq a = encSeq b → a = b := by
  intro a b h
  simp only [encSeq, PV.fn.injEq, List.cons.injEq, PV.addr.injEq, and_true, true_and] at h
  exact encT_inj _ _ h
theorem seqB : type_of% (ofE_inj encSeq_inj) := ofE_inj encSeq_inj

def ctrValues : Ctr := fun args objs K => match args with
  | [a0] => ofE encT a0 (HK.mk : HK fun l => K (encSeq l) objs 0)
  | _ => False
theorem ctrValues_ok : CtrOk Tryd.prog f_slices_Values_L_string_string_ (ctrValues) := by
  intro args objs K h
  unfold ctrValues at h
  split at h
  · rename_i a0
    obtain ⟨l, rfl, hk⟩ := h
    exact ⟨_, _, _, .pure _ rfl (values_spec l), hk⟩
  · exact h.elim

theorem values1_gives (l : List (List UInt8)) (hl : l.length ≤ 1000000) : Gives Tryd.prog f_slices_Values_L_string_string__1 [.addr (encT l)] (l.map fun s => [.str s]) := by
  refine k_slices_Values_L_string_string__1.gives (fnT := tabF []) hD tabOk_nil hmix ?_
  intro I J objs y hI hIl hJl
  simp (maxSteps := 400000) only [↓preZ, postZ, coreZ, ↓preU, postU, D_all, F_all, unR, outL, onePV, binS, ↓binS, boundR, ↓boundR, fieldOf, ↓fieldOf, boxR, allocR, newObj, zeroElem, buildSliceR, appendR, setAll, storeR, St.freeze, makeSliceR, minmaxR, makeFuncR, BEq.rfl, reduceIte, reduceCtorEq, Nat.reduceLT, Nat.reduceAdd, Nat.reduceSub, Nat.reduceMul, Nat.reduceBEq, Nat.reduceLeDiff, Int.reduceToNat, Int.reduceLE, c_slices_Values_L_string_string__1]
  refine wpc_loop (fun m S => ∃ (i : Nat) (O : List Obj), i + m = l.length ∧ I i O ∧ S = ⟨tmA 16 [(0, .yld y), (5, encT l), (6, .int .i64 l.length), (7, .int .i64 i)], O⟩) l.length ⟨0, objs, by omega, hI, ?_⟩ ?_
  · simp only [normR, keepR, Nat.reduceAdd, lkR, Nat.reduceBEq, F_all, List.map_nil]
    rfl
  rintro m S ⟨i, O, him, hIi, rfl⟩
  rcases Nat.lt_or_ge i l.length with h | h
  · have hlt : ((i : Int) < (l.length : Int)) = True := eq_true (by omega)
    have zi : (0 ≤ (i : Int)) = True := eq_true (by omega)
    have hgi := List.getElem?_eq_getElem h
    generalize l[i] = s at hgi
    simp (maxSteps := 400000) only [↓preZ, postZ, coreZ, ↓preU, postU, D_all, F_all, unR, outL, onePV, binS, ↓binS, boundR, ↓boundR, fieldOf, ↓fieldOf, boxR, allocR, newObj, zeroElem, buildSliceR, appendR, setAll, storeR, St.freeze, makeSliceR, minmaxR, makeFuncR, BEq.rfl, reduceIte, reduceCtorEq, Nat.reduceLT, Nat.reduceAdd, Nat.reduceSub, Nat.reduceMul, Nat.reduceBEq, Nat.reduceLeDiff, Int.reduceToNat, Int.reduceLE, hlt, zi, hgi, Yof]
    refine ⟨rfl, i, hIi, by rw [hgi]; rfl, fun O' hI' => ⟨⟨by omega, by omega⟩, m - 1, by omega, i + 1, O', by omega, hI', rfl⟩, fun O' hJ' => ⟨.inr rfl, .inr ⟨i, h, hJ'⟩⟩⟩
  · have hlt : ((i : Int) < (l.length : Int)) = False := eq_false (by omega)
    simp (maxSteps := 400000) only [↓preZ, postZ, coreZ, ↓preU, postU, D_all, F_all, unR, outL, onePV, binS, ↓binS, boundR, ↓boundR, fieldOf, ↓fieldOf, boxR, allocR, newObj, zeroElem, buildSliceR, appendR, setAll, storeR, St.freeze, makeSliceR, minmaxR, makeFuncR, BEq.rfl, reduceIte, reduceCtorEq, Nat.reduceLT, Nat.reduceAdd, Nat.reduceSub, Nat.reduceMul, Nat.reduceBEq, Nat.reduceLeDiff, Int.reduceToNat, Int.reduceLE, hlt]
    have hi : i = l.length := by omega
    subst hi
    exact ⟨.inl rfl, .inl hIi⟩

theorem strArgs_len (l : List (List UInt8)) : ∀ y ∈ l.map (fun s => [PV.str s]), y.length = 1 := by
  intro y hy
  obtain ⟨p, _, rfl⟩ := List.mem_map.1 hy
  rfl

theorem strArgs_get {l : List (List UInt8)} {i : Nat} {args : List PV} (h : (l.map fun s => [PV.str s])[i]? = some args) : ∃ s, l[i]? = some s ∧ args = [.str s] := by
  rw [List.getElem?_map] at h
  cases hx : l[i]? with
  | none => rw [hx] at h; simp at h
  | some p => rw [hx] at h; exact ⟨p, rfl, by simpa using h.symm⟩

/-- What is collected so far. -/
def seqO (l : List (List UInt8)) (i : Nat) : List Obj → Prop := fun O =>
  (i = 0 ∧ O = [⟨t_L_string, 1, [.sl 0 [] (some true)], true, 1⟩]) ∨ (0 < i ∧ ∃ ver, O = [⟨t_L_string, 1, [.osl 1 ver], true, 1⟩, ⟨t_string, 1, (l.take i).map .str, true, ver⟩])

theorem strRefs (l : List (List UInt8)) {ver : Nat} : NoRefs [⟨t_string, 1, l.map .str, true, ver⟩] := by
  intro o ho x hx c hc
  simp only [List.mem_singleton] at ho; subst ho
  obtain ⟨p, _, rfl⟩ := List.mem_map.1 hx
  simp only [PV.cells, List.mem_singleton] at hc; subst hc; rfl

theorem appendSeq_made (l : List (List UInt8)) (h0 : l ≠ []) (hl : l.length ≤ 1000000) : FnSpec Tryd.prog f_slices_AppendSeq_L_string_string_ [.sl 0 [] (some true), .fn f_slices_Values_L_string_string__1 [] [.addr (encT l)]] [] (.osl 0 0) [⟨t_string, 1, l.map .str, true, 0⟩] := by
  refine k_slices_AppendSeq_L_string_string_.madeG (T := tabL Tryd.prog []) 0 hD (kOk_tabL tabOk_nil) hmix fun Q hQ => ?_
  try simp only [F_all]
  simp (maxSteps := 400000) only [↓preZ, postZ, coreZ, ↓preU, postU, D_all, F_all, unR, outL, onePV, binS, ↓binS, boundR, ↓boundR, fieldOf, ↓fieldOf, boxR, allocR, newObj, zeroElem, buildSliceR, appendR, setAll, storeR, St.freeze, makeSliceR, minmaxR, makeFuncR, BEq.rfl, reduceIte, reduceCtorEq, Nat.reduceLT, Nat.reduceAdd, Nat.reduceSub, Nat.reduceMul, Nat.reduceBEq, Nat.reduceLeDiff, Int.reduceToNat, Int.reduceLE, hQ, c_slices_AppendSeq_L_string_string_]
  refine wpc_rf f_slices_Values_L_string_string__1 [.addr (encT l)] (l.map fun s => [.str s]) (fun i O => seqO l i O ∧ i ≤ l.length) rfl rfl rfl trivial (values1_gives l hl) (strArgs_len l) ⟨.inl ⟨rfl, rfl⟩, Nat.zero_le _⟩ ?_ ?_ ?_
  · rintro i O ⟨⟨_, rfl⟩ | ⟨_, ver, rfl⟩, _⟩
    · refine ⟨Nat.le_refl _, ?_⟩
      intro o ho x hx c hc
      simp only [List.mem_singleton] at ho; subst ho
      simp only [List.mem_singleton] at hx; subst hx
      simp only [PV.cells, List.mem_singleton] at hc; subst hc; rfl
    · refine ⟨by simp, ?_⟩
      intro o ho x hx c hc
      simp only [List.mem_cons, List.not_mem_nil, or_false] at ho
      rcases ho with rfl | rfl
      · simp only [List.mem_singleton] at hx; subst hx
        simp only [PV.cells, List.mem_singleton] at hc; subst hc; rfl
      · obtain ⟨p, _, rfl⟩ := List.mem_map.1 hx
        simp only [PV.cells, List.mem_singleton] at hc; subst hc; rfl
  · rintro i args O ⟨hO, hi⟩ ha
    obtain ⟨s, hs, rfl⟩ := strArgs_get ha
    have hil := (List.getElem?_eq_some_iff.1 hs).1
    have htk : l.take (i + 1) = l.take i ++ [s] := by rw [List.take_add_one, hs]; rfl
    rcases hO with ⟨rfl, rfl⟩ | ⟨h1, ver, rfl⟩
    · simp (maxSteps := 400000) only [↓preZ, postZ, coreZ, ↓preU, postU, D_all, F_all, unR, outL, onePV, binS, ↓binS, boundR, ↓boundR, fieldOf, ↓fieldOf, boxR, allocR, newObj, zeroElem, buildSliceR, appendR, setAll, storeR, St.freeze, makeSliceR, minmaxR, makeFuncR, BEq.rfl, reduceIte, reduceCtorEq, Nat.reduceLT, Nat.reduceAdd, Nat.reduceSub, Nat.reduceMul, Nat.reduceBEq, Nat.reduceLeDiff, Int.reduceToNat, Int.reduceLE, hQ, setL, knI]
      exact ⟨.inr ⟨by omega, 1, by rw [htk]; rfl⟩, by omega⟩
    · simp (maxSteps := 400000) only [↓preZ, postZ, coreZ, ↓preU, postU, D_all, F_all, unR, outL, onePV, binS, ↓binS, boundR, ↓boundR, fieldOf, ↓fieldOf, boxR, allocR, newObj, zeroElem, buildSliceR, appendR, setAll, storeR, St.freeze, makeSliceR, minmaxR, makeFuncR, BEq.rfl, reduceIte, reduceCtorEq, Nat.reduceLT, Nat.reduceAdd, Nat.reduceSub, Nat.reduceMul, Nat.reduceBEq, Nat.reduceLeDiff, Int.reduceToNat, Int.reduceLE, hQ, setL, knI]
      have := List.length_take_le i l
      exact ⟨by omega, by omega, .inr ⟨by omega, ver + 1, by rw [htk, List.map_append]; rfl⟩, by omega⟩
  · rintro O ⟨hO, _⟩
    rw [List.length_map] at hO
    rcases hO with ⟨h1, rfl⟩ | ⟨h1, ver, rfl⟩
    · exact absurd (List.length_eq_zero_iff.1 h1) h0
    · simp (maxSteps := 400000) only [↓preZ, postZ, coreZ, ↓preU, postU, D_all, F_all, unR, outL, onePV, binS, ↓binS, boundR, ↓boundR, fieldOf, ↓fieldOf, boxR, allocR, newObj, zeroElem, buildSliceR, appendR, setAll, storeR, St.freeze, makeSliceR, minmaxR, makeFuncR, BEq.rfl, reduceIte, reduceCtorEq, Nat.reduceLT, Nat.reduceAdd, Nat.reduceSub, Nat.reduceMul, Nat.reduceBEq, Nat.reduceLeDiff, Int.reduceToNat, Int.reduceLE, hQ]
      refine endM (k := 1) (ver := ver) rfl rfl rfl rfl ?_ (strRefs l)
      simp only [frzO, List.take_length]
      rw [map_frz_of PV.str fun _ => rfl]

theorem appendSeq_nil : FnSpec Tryd.prog f_slices_AppendSeq_L_string_string_ [.sl 0 [] (some true), .fn f_slices_Values_L_string_string__1 [] [.addr (encT [])]] [] (.sl 0 [] (some true)) [] := by
  refine k_slices_AppendSeq_L_string_string_.pureG (T := tabL Tryd.prog []) 0 hD (kOk_tabL tabOk_nil) hmix (by decide) fun Q hQ => ?_
  try simp only [F_all]
  simp (maxSteps := 400000) only [↓preZ, postZ, coreZ, ↓preU, postU, D_all, F_all, unR, outL, onePV, binS, ↓binS, boundR, ↓boundR, fieldOf, ↓fieldOf, boxR, allocR, newObj, zeroElem, buildSliceR, appendR, setAll, storeR, St.freeze, makeSliceR, minmaxR, makeFuncR, BEq.rfl, reduceIte, reduceCtorEq, Nat.reduceLT, Nat.reduceAdd, Nat.reduceSub, Nat.reduceMul, Nat.reduceBEq, Nat.reduceLeDiff, Int.reduceToNat, Int.reduceLE, hQ, c_slices_AppendSeq_L_string_string_]
  refine wpc_rf f_slices_Values_L_string_string__1 [.addr (encT [])] ([].map fun s => [PV.str s]) (fun i O => i ≤ 0 ∧ O = [⟨t_L_string, 1, [.sl 0 [] (some true)], true, 1⟩]) rfl rfl rfl trivial (values1_gives [] (by simp)) (strArgs_len []) ⟨Nat.le_refl _, rfl⟩ ?_ ?_ ?_
  · rintro i O ⟨_, rfl⟩
    refine ⟨Nat.le_refl _, ?_⟩
    intro o ho x hx c hc
    simp only [List.mem_singleton] at ho; subst ho
    simp only [List.mem_singleton] at hx; subst hx
    simp only [PV.cells, List.mem_singleton] at hc; subst hc; rfl
  · rintro i args O _ ha
    simp at ha
  · rintro O ⟨_, rfl⟩
    simp (maxSteps := 400000) only [↓preZ, postZ, coreZ, ↓preU, postU, D_all, F_all, unR, outL, onePV, binS, ↓binS, boundR, ↓boundR, fieldOf, ↓fieldOf, boxR, allocR, newObj, zeroElem, buildSliceR, appendR, setAll, storeR, St.freeze, makeSliceR, minmaxR, makeFuncR, BEq.rfl, reduceIte, reduceCtorEq, Nat.reduceLT, Nat.reduceAdd, Nat.reduceSub, Nat.reduceMul, Nat.reduceBEq, Nat.reduceLeDiff, Int.reduceToNat, Int.reduceLE, hQ]

def ctrAppSeqM : Ctr := fun args objs K => ∃ l : List (List UInt8), args = [.sl 0 [] (some true), .fn f_slices_Values_L_string_string__1 [] [.addr (encT l)]] ∧ l ≠ [] ∧ l.length ≤ 1000000 ∧ K (.osl objs.length 0) (objs ++ [⟨t_string, 1, l.map .str, true, 0⟩]) 2
theorem ctrAppSeqM_ok : CtrOk Tryd.prog f_slices_AppendSeq_L_string_string_ ctrAppSeqM := by
  rintro args objs K ⟨l, rfl, h0, h1, hk⟩
  exact ⟨_, _, _, CallR.made (objs := objs) _ _ rfl (strRefs l) (appendSeq_made l h0 h1), by simpa [PV.shift, PV.shiftS] using hk⟩

def ctrAppSeq0 : Ctr := fun args objs K => match args with
  | [a0, a1] => a0 = (.sl 0 [] (some true)) ∧ a1 = (.fn f_slices_Values_L_string_string__1 [] [.addr (encT [])]) ∧ K (.sl 0 [] (some true)) objs 0
  | _ => False
theorem ctrAppSeq0_ok : CtrOk Tryd.prog f_slices_AppendSeq_L_string_string_ (ctrAppSeq0) := by
  intro args objs K h
  unfold ctrAppSeq0 at h
  split at h
  · rename_i a0 a1
    obtain ⟨rfl, rfl, hk⟩ := h
    exact ⟨_, _, _, .pure _ rfl (appendSeq_nil), hk⟩
  · exact h.elim

theorem collect_made (l : List (List UInt8)) (h0 : l ≠ []) (hl : l.length ≤ 1000000) : FnSpec Tryd.prog f_slices_Collect_string_ [.fn f_slices_Values_L_string_string__1 [] [.addr (encT l)]] [] (.osl 0 0) [⟨t_string, 1, l.map .str, true, 0⟩] := by
  refine k_slices_Collect_string_.madeG (T := tabL Tryd.prog [(f_slices_AppendSeq_L_string_string_, ctrAppSeqM)]) 0 hD (kOk_tabL (tabOk_cons ctrAppSeqM_ok tabOk_nil)) hmix fun Q hQ => ?_
  try simp only [F_all]
  simp (maxSteps := 400000) only [↓preZ, postZ, coreZ, ↓preU, postU, D_all, F_all, unR, outL, onePV, binS, ↓binS, boundR, ↓boundR, fieldOf, ↓fieldOf, boxR, allocR, newObj, zeroElem, buildSliceR, appendR, setAll, storeR, St.freeze, makeSliceR, minmaxR, makeFuncR, BEq.rfl, reduceIte, reduceCtorEq, Nat.reduceLT, Nat.reduceAdd, Nat.reduceSub, Nat.reduceMul, Nat.reduceBEq, Nat.reduceLeDiff, Int.reduceToNat, Int.reduceLE, hQ, c_slices_Collect_string_, ↓ctrAppSeqM]
  refine ⟨l, rfl, h0, hl, endM (k := 0) (ver := 0) rfl rfl rfl rfl ?_ (strRefs l)⟩
  simp only [frzO]
  rw [map_frz_of PV.str fun _ => rfl]

def ctrCollectM : Ctr := fun args objs K => ∃ l : List (List UInt8), args = [.fn f_slices_Values_L_string_string__1 [] [.addr (encT l)]] ∧ l ≠ [] ∧ l.length ≤ 1000000 ∧ K (.osl objs.length 0) (objs ++ [⟨t_string, 1, l.map .str, true, 0⟩]) 2
theorem ctrCollectM_ok : CtrOk Tryd.prog f_slices_Collect_string_ ctrCollectM := by
  rintro args objs K ⟨l, rfl, h0, h1, hk⟩
  exact ⟨_, _, _, CallR.made (objs := objs) _ _ rfl (strRefs l) (collect_made l h0 h1), by simpa [PV.shift, PV.shiftS] using hk⟩

def ctrSortM : Ctr := fun args objs K => ∃ (k ver : Nat) (ss : List (List UInt8)), args = [.osl k ver] ∧ objs[k]? = some ⟨t_string, 1, ss.map .str, true, ver⟩ ∧ ss.length ≤ 1000000 ∧ K (.tup []) (objs.set k ⟨t_string, 1, (sortS ss).map .str, true, ver⟩) 2
theorem ctrSortM_ok : CtrOk Tryd.prog f_slices_Sort_L_string_string_ ctrSortM := by
  rintro args objs K ⟨k, ver, ss, rfl, h1, h2, hk⟩
  exact ⟨_, _, _, .used _ _ (sort_use ss h1 h2), hk⟩

theorem collect_nil : FnSpec Tryd.prog f_slices_Collect_string_ [.fn f_slices_Values_L_string_string__1 [] [.addr (encT [])]] [] (.sl 0 [] (some true)) [] := by
  refine k_slices_Collect_string_.pureG (T := tabL Tryd.prog [(f_slices_AppendSeq_L_string_string_, ctrAppSeq0)]) 0 hD (kOk_tabL (tabOk_cons ctrAppSeq0_ok tabOk_nil)) hmix (by decide) fun Q hQ => ?_
  try simp only [F_all]
  simp (maxSteps := 400000) only [↓preZ, postZ, coreZ, ↓preU, postU, D_all, F_all, unR, outL, onePV, binS, ↓binS, boundR, ↓boundR, fieldOf, ↓fieldOf, boxR, allocR, newObj, zeroElem, buildSliceR, appendR, setAll, storeR, St.freeze, makeSliceR, minmaxR, makeFuncR, BEq.rfl, reduceIte, reduceCtorEq, Nat.reduceLT, Nat.reduceAdd, Nat.reduceSub, Nat.reduceMul, Nat.reduceBEq, Nat.reduceLeDiff, Int.reduceToNat, Int.reduceLE, hQ, c_slices_Collect_string_, ↓ctrAppSeq0]
def ctrCollect0 : Ctr := fun args objs K => match args with
  | [a0] => a0 = (.fn f_slices_Values_L_string_string__1 [] [.addr (encT [])]) ∧ K (.sl 0 [] (some true)) objs 0
  | _ => False
theorem ctrCollect0_ok : CtrOk Tryd.prog f_slices_Collect_string_ (ctrCollect0) := by
  intro args objs K h
  unfold ctrCollect0 at h
  split at h
  · rename_i a0
    obtain ⟨rfl, hk⟩ := h
    exact ⟨_, _, _, .pure _ rfl (collect_nil), hk⟩
  · exact h.elim

theorem sortNil_spec : FnSpec Tryd.prog f_slices_Sort_L_string_string_ [.sl 0 [] (some true)] [] (.tup []) [] := by
  refine FnSpec.of_keep ⟨_, Tryd.lays190.f190, by kernel_rfl, by kernel_rfl⟩ fun w vs ok hg hr => ?_
  obtain ⟨u, rfl, h⟩ := rep1 hr
  have hu : u = .slice none 0 0 := by
    cases h with
    | slnil => rfl
    | slz _ _ hq => exact absurd rfl hq
    | sl _ _ _ hq => exact absurd rfl hq
  subst hu
  refine (Any.slices_Sort_string_none Tryd.lays190 none 0 w).mono ?_
  rintro e w' ⟨h1, rfl⟩
  exact ⟨_, h1, fun w ok => .tup _ _ rfl (fun i p v h => by simp at h), .refl _ _⟩

def ctrSort0 : Ctr := fun args objs K => match args with
  | [a0] => a0 = (.sl 0 [] (some true)) ∧ K (.tup []) objs 0
  | _ => False
theorem ctrSort0_ok : CtrOk Tryd.prog f_slices_Sort_L_string_string_ (ctrSort0) := by
  intro args objs K h
  unfold ctrSort0 at h
  split at h
  · rename_i a0
    obtain ⟨rfl, hk⟩ := h
    exact ⟨_, _, _, .pure _ rfl (sortNil_spec), hk⟩
  · exact h.elim

theorem sorted_spec (l : List (List UInt8)) (hl : l.length ≤ 1000000) : FnSpec Tryd.prog f_slices_Sorted_string_ [.fn f_slices_Values_L_string_string__1 [] [.addr (encT l)]] [] (encT (sortS l)) [] := by
  by_cases h0 : l = []
  · subst h0
    refine FnSpec.res (r := .sl 0 [] (some true)) ?_ (by have : sortS [] = [] := List.mergeSort_nil; rw [this]; exact tells_nil 0 1)
    refine k_slices_Sorted_string_.pureG (T := tabL Tryd.prog [(f_slices_Collect_string_, ctrCollect0), (f_slices_Sort_L_string_string_, ctrSort0)]) 0 hD (kOk_tabL (tabOk_cons ctrCollect0_ok (tabOk_cons ctrSort0_ok tabOk_nil))) hmix (by decide) fun Q hQ => ?_
    try simp only [F_all]
    simp (maxSteps := 400000) only [↓preZ, postZ, coreZ, ↓preU, postU, D_all, F_all, unR, outL, onePV, binS, ↓binS, boundR, ↓boundR, fieldOf, ↓fieldOf, boxR, allocR, newObj, zeroElem, buildSliceR, appendR, setAll, storeR, St.freeze, makeSliceR, minmaxR, makeFuncR, BEq.rfl, reduceIte, reduceCtorEq, Nat.reduceLT, Nat.reduceAdd, Nat.reduceSub, Nat.reduceMul, Nat.reduceBEq, Nat.reduceLeDiff, Int.reduceToNat, Int.reduceLE, hQ, c_slices_Sorted_string_, ↓ctrCollect0, ↓ctrSort0]
  refine k_slices_Sorted_string_.pureG (T := tabL Tryd.prog [(f_slices_Collect_string_, ctrCollectM), (f_slices_Sort_L_string_string_, ctrSortM)]) 1 hD (kOk_tabL (tabOk_cons ctrCollectM_ok (tabOk_cons ctrSortM_ok tabOk_nil))) hmix (by decide) fun Q hQ => ?_
  try simp only [F_all]
  simp (maxSteps := 400000) only [↓preZ, postZ, coreZ, ↓preU, postU, D_all, F_all, unR, outL, onePV, binS, ↓binS, boundR, ↓boundR, fieldOf, ↓fieldOf, boxR, allocR, newObj, zeroElem, buildSliceR, appendR, setAll, storeR, St.freeze, makeSliceR, minmaxR, makeFuncR, BEq.rfl, reduceIte, reduceCtorEq, Nat.reduceLT, Nat.reduceAdd, Nat.reduceSub, Nat.reduceMul, Nat.reduceBEq, Nat.reduceLeDiff, Int.reduceToNat, Int.reduceLE, hQ, c_slices_Sorted_string_, ↓ctrCollectM]
  refine ⟨l, rfl, h0, hl, ?_⟩
  simp (maxSteps := 400000) only [↓preZ, postZ, coreZ, ↓preU, postU, D_all, F_all, unR, outL, onePV, binS, ↓binS, boundR, ↓boundR, fieldOf, ↓fieldOf, boxR, allocR, newObj, zeroElem, buildSliceR, appendR, setAll, storeR, St.freeze, makeSliceR, minmaxR, makeFuncR, BEq.rfl, reduceIte, reduceCtorEq, Nat.reduceLT, Nat.reduceAdd, Nat.reduceSub, Nat.reduceMul, Nat.reduceBEq, Nat.reduceLeDiff, Int.reduceToNat, Int.reduceLE, hQ, ↓ctrSortM]
  refine ⟨0, 0, l, rfl, rfl, hl, ?_⟩
  simp only [List.set_cons_zero, frz, Nat.not_lt_zero, if_false, frzI, List.getElem?_cons_zero, Nat.le_refl, decide_true, Bool.true_and, beq_self_eq_true, if_true]
  rw [map_frz_of PV.str fun _ => rfl]
  rfl

def ctrSorted : Ctr := fun args objs K => match args with
  | [a0] => ofE encSeq a0 (HK.mk : HK fun l => (l.length ≤ 1000000) ∧ K (encT (sortS l)) objs 0)
  | _ => False
theorem ctrSorted_ok : CtrOk Tryd.prog f_slices_Sorted_string_ (ctrSorted) := by
  intro args objs K h
  unfold ctrSorted at h
  split at h
  · rename_i a0
    obtain ⟨l, rfl, h1, hk⟩ := h
    exact ⟨_, _, _, .pure _ rfl (sorted_spec l h1), hk⟩
  · exact h.elim
end Lp

/-! LpD12 -/

namespace Lp
open Go Go.Proofs

set_option maxHeartbeats 4000000
set_option maxRecDepth 20000
set_option linter.unusedSimpArgs false

def encP (x : List UInt8 × Vl) : PV := .agg [.str x.1, encV x.2]
def mapO (q : Prs) : Obj := ⟨MT, 2, q.map encP, true, 1⟩

/-- What is asked of maps, and written. -/
theorem opsM (P : Program) (D : TypeId → TInfo) (T : Know) (w pt : Bool) (ev : Operand → PV) (objs : List Obj) (K : KT) :
    (∀ t x ix ok, opT P D T w pt ev objs (.lookup t x ix ok) K = lookupR D t (ev x) (ev ix) ok objs K) ∧
    (∀ t x y z, opT P D T w pt ev objs (.mapUpdate t x y z) K = mapUpdateR D t (ev x) (ev y) (ev z) objs K) ∧
    (∀ t, opT P D T w pt ev objs (.makeMap t none) K = makeMapR D t objs K) := ⟨fun _ _ _ _ => rfl, fun _ _ _ _ => rfl, fun _ => rfl⟩

theorem foundR (ti : TInfo) : (∀ i v, found ti (some (i, v)) true = .tup [v, .bool true]) ∧ (∀ i v, found ti (some (i, v)) false = v) ∧ (found ti none true = .tup [zeroElem ti, .bool false]) ∧ (found ti none false = zeroElem ti) := ⟨fun _ _ => rfl, fun _ _ => rfl, rfl, rfl⟩

theorem mfind_none {nm : List UInt8} : ∀ (q : Prs) (i : Nat), nm ∉ q.map (·.1) → mfind .str (.str nm) (q.map encP) i = some none
  | [], _, _ => rfl
  | x :: q, i, h => by
    simp only [List.map_cons, List.mem_cons, not_or] at h
    have : keq .str (.str nm) (.str x.1) = some false := by simp [keq, h.1]
    simp only [List.map_cons, encP, mfind, this]
    exact mfind_none q (i + 1) h.2

theorem mfind_some {nm : List UInt8} {v : Vl} : ∀ (q : Prs) (i : Nat), getP q nm = some v → ∃ j, mfind .str (.str nm) (q.map encP) i = some (some (j, encV v))
  | [], _, h => by simp [getP] at h
  | x :: q, i, h => by
    by_cases e : x.1 = nm
    · have hk : keq .str (.str nm) (.str x.1) = some true := by simp [keq, e]
      have hv : x.2 = v := by simpa [getP, e] using h
      refine ⟨i, ?_⟩
      simp only [List.map_cons, encP, mfind, hk, hv]
    · have hk : keq .str (.str nm) (.str x.1) = some false := by simp [keq]; exact fun h => e h.symm
      have h' : getP q nm = some v := by simpa [getP, e] using h
      obtain ⟨j, hj⟩ := mfind_some q (i + 1) h'
      refine ⟨j, ?_⟩
      simp only [List.map_cons, encP, mfind, hk]
      exact hj

/-- Texts sorted, each with what is its own. -/
theorem srt_lookup {names : List (List UInt8)} {l : List Vl} (h : namesOk names l.length = true) : ((sortS names).map fun nm => (nm, (getP (names.zip l) nm).getD [])) = srtP (names.zip l) ∧ ∀ nm ∈ names, ∃ v, getP (names.zip l) nm = some v ∧ v ∈ l := by
  obtain ⟨h1, h2, h3⟩ := namesOk_iff.1 h
  have hfst : (names.zip l).map (·.1) = names := List.map_fst_zip (by omega)
  have hget : ∀ nm ∈ names, ∃ v, getP (names.zip l) nm = some v ∧ v ∈ l := fun nm hm => by
    cases hg : getP (names.zip l) nm with
    | none => rw [getP_none, hfst] at hg; exact absurd hm hg
    | some v => exact ⟨v, rfl, (List.of_mem_zip (getP_some hg)).2⟩
  refine ⟨srtP_unique h ?_ fun x => ?_, hget⟩
  · rw [List.map_map]
    have : (Prod.fst ∘ fun nm => (nm, (getP (names.zip l) nm).getD [])) = id := rfl
    show Rise (List.map (Prod.fst ∘ fun nm => (nm, (getP (names.zip l) nm).getD [])) (sortS names))
    rw [this, List.map_id]
    exact sortS_rise h2
  · constructor
    · intro hx
      obtain ⟨nm, hn, rfl⟩ := List.mem_map.1 hx
      obtain ⟨v, hv, _⟩ := hget nm ((sortS_perm names).mem_iff.1 hn)
      rw [hv]
      exact getP_some hv
    · intro hx
      have hg := mem_getP (by rw [hfst]; exact h2) hx
      refine List.mem_map.2 ⟨x.1, (sortS_perm names).mem_iff.2 (by rw [← hfst]; exact List.mem_map.2 ⟨x, hx, rfl⟩), ?_⟩
      rw [hg]; rfl

theorem valObject_bad (names : List (List UInt8)) (l : List Vl) (hbad : namesOk names l.length = false) (hn : names.length ≤ 1000000) (htx : ∀ s ∈ names, s.length ≤ 4611686018427387904) : FnSpec Tryd.prog f_val_Object [encT names, encL l] [] (.tup [.sl 0 [] (some true), .int .i64 4]) [] := by
  by_cases hp : names.length = l.length
  rotate_left 1
  · skip
    refine k_val_Object.pureG2 (T := tabL Tryd.prog []) 1 hD (kOk_tabL tabOk_nil) hmix (by decide) (by decide) fun Q hQ => ?_
    try simp only [F_all]
    have hl' : ((names.length : Int) = (l.length : Int)) = False := eq_false (by omega)
    simp (maxSteps := 400000) only [↓preZ, postZ, coreZ, ↓preU, postU, D_all, F_all, unR, outL, onePV, binS, ↓binS, boundR, ↓boundR, fieldOf, ↓fieldOf, boxR, allocR, newObj, zeroElem, buildSliceR, appendR, setAll, storeR, St.freeze, makeSliceR, minmaxR, makeFuncR, BEq.rfl, reduceIte, reduceCtorEq, Nat.reduceLT, Nat.reduceAdd, Nat.reduceSub, Nat.reduceMul, Nat.reduceBEq, Nat.reduceLeDiff, Int.reduceToNat, Int.reduceLE, hQ, c_val_Object, hl']
  have hl' : ((names.length : Int) = (l.length : Int)) = True := eq_true (by omega)
  refine k_val_Object.pureG2 (T := tabL Tryd.prog [(f_unicode_utf8_ValidString, ctrValidS)]) 1 hD (kOk_tabL (tabOk_cons ctrValidS_ok tabOk_nil)) hmix (by decide) (by decide) fun Q hQ => ?_
  try simp only [F_all]
  simp (maxSteps := 400000) only [↓preZ, postZ, coreZ, ↓preU, postU, D_all, F_all, unR, outL, onePV, binS, ↓binS, boundR, ↓boundR, fieldOf, ↓fieldOf, boxR, allocR, newObj, zeroElem, buildSliceR, appendR, setAll, storeR, St.freeze, makeSliceR, minmaxR, makeFuncR, BEq.rfl, reduceIte, reduceCtorEq, Nat.reduceLT, Nat.reduceAdd, Nat.reduceSub, Nat.reduceMul, Nat.reduceBEq, Nat.reduceLeDiff, Int.reduceToNat, Int.reduceLE, hQ, c_val_Object, hl', ↓opsM, makeMapR]
  refine wpc_loop (fun m S => ∃ i : Nat, i + m = names.length ∧ (names.take i).Nodup ∧ (∀ x ∈ names.take i, utf x = true) ∧ S = ⟨tmA 66 [(0, encT names), (1, encL l), (6, .omp 0 1), (21, encT names), (22, .int .i64 names.length), (23, .int .i64 i)], [mapO ((names.zip l).take i)]⟩) names.length ⟨0, by omega, by simp, by simp, ?_⟩ ?_
  · simp only [normR, keepR, Nat.reduceAdd, lkR, Nat.reduceBEq, F_all, List.map_nil]
    rfl
  rintro m S ⟨i, him, hnd, hut, rfl⟩
  rcases Nat.lt_or_ge i names.length with h | h
  · have hlt : ((i : Int) < (names.length : Int)) = True := eq_true (by omega)
    have zi : (0 ≤ (i : Int)) = True := eq_true (by omega)
    have hgi := List.getElem?_eq_getElem h
    have hgl : l[i]? = some (l[i]'(by omega)) := List.getElem?_eq_getElem _
    have hx := htx _ (List.getElem_mem h)
    generalize names[i] = nm at hgi hx
    generalize l[i]'(by omega) = v at hgl
    have hgz : (names.zip l)[i]? = some (nm, v) := by rw [List.getElem?_zip_eq_some]; exact ⟨hgi, hgl⟩
    have htk : names.take (i + 1) = names.take i ++ [nm] := by rw [List.take_add_one, hgi]; rfl
    have htz : (names.zip l).take (i + 1) = (names.zip l).take i ++ [(nm, v)] := by rw [List.take_add_one, hgz]; rfl
    have hfst : ((names.zip l).take i).map (·.1) = names.take i := by rw [List.map_take, List.map_fst_zip (by omega)]
    by_cases hin : nm ∈ names.take i
    · skip
      obtain ⟨v', hv'⟩ : ∃ v', getP ((names.zip l).take i) nm = some v' := by
        cases hg : getP ((names.zip l).take i) nm with
        | none => rw [getP_none, hfst] at hg; exact absurd hin hg
        | some v' => exact ⟨v', rfl⟩
      obtain ⟨j, hj⟩ := mfind_some _ 0 hv'
      unfold mapO
      simp (maxSteps := 400000) only [↓preZ, postZ, coreZ, ↓preU, postU, D_all, F_all, unR, outL, onePV, binS, ↓binS, boundR, ↓boundR, fieldOf, ↓fieldOf, boxR, allocR, newObj, zeroElem, buildSliceR, appendR, setAll, storeR, St.freeze, makeSliceR, minmaxR, makeFuncR, BEq.rfl, reduceIte, reduceCtorEq, Nat.reduceLT, Nat.reduceAdd, Nat.reduceSub, Nat.reduceMul, Nat.reduceBEq, Nat.reduceLeDiff, Int.reduceToNat, Int.reduceLE, hQ, hlt, zi, hgi, ↓opsM, lookupR, hj, foundR, extractR, true_or]
    · have hmf := mfind_none ((names.zip l).take i) 0 (by rw [hfst]; exact hin)
      cases hu : utf nm
      · unfold mapO
        simp (maxSteps := 400000) only [↓preZ, postZ, coreZ, ↓preU, postU, D_all, F_all, unR, outL, onePV, binS, ↓binS, boundR, ↓boundR, fieldOf, ↓fieldOf, boxR, allocR, newObj, zeroElem, buildSliceR, appendR, setAll, storeR, St.freeze, makeSliceR, minmaxR, makeFuncR, BEq.rfl, reduceIte, reduceCtorEq, Nat.reduceLT, Nat.reduceAdd, Nat.reduceSub, Nat.reduceMul, Nat.reduceBEq, Nat.reduceLeDiff, Int.reduceToNat, Int.reduceLE, hQ, hlt, zi, hgi, ↓ctrValidS, hu, ↓opsM, lookupR, hmf, foundR, extractR, true_or]
        exact hx
      · unfold mapO
        simp (maxSteps := 400000) only [↓preZ, postZ, coreZ, ↓preU, postU, D_all, F_all, unR, outL, onePV, binS, ↓binS, boundR, ↓boundR, fieldOf, ↓fieldOf, boxR, allocR, newObj, zeroElem, buildSliceR, appendR, setAll, storeR, St.freeze, makeSliceR, minmaxR, makeFuncR, BEq.rfl, reduceIte, reduceCtorEq, Nat.reduceLT, Nat.reduceAdd, Nat.reduceSub, Nat.reduceMul, Nat.reduceBEq, Nat.reduceLeDiff, Int.reduceToNat, Int.reduceLE, hQ, hlt, zi, hgi, hgl, ↓ctrValidS, hu, ↓opsM, lookupR, mapUpdateR, hmf, foundR, extractR, true_or, mput]
        refine ⟨hx, ⟨by omega, by omega⟩, m - 1, by omega, i + 1, by omega, ?_, fun x hx => ?_, ?_⟩
        · rw [htk, List.nodup_append]
          refine ⟨hnd, by simp, fun a ha b hb => ?_⟩
          simp only [List.mem_singleton] at hb
          subst hb
          rintro rfl; exact hin ha
        · rw [htk] at hx
          rcases List.mem_append.1 hx with hx | hx
          · exact hut x hx
          · simp only [List.mem_singleton] at hx
            subst hx; exact hu
        · rw [htz, List.map_append]; rfl
  rw [List.take_of_length_le h] at hnd hut
  rw [namesOk_iff.2 ⟨hp, hnd, hut⟩] at hbad
  cases hbad

theorem valObject_made (names : List (List UInt8)) (l : List Vl) (hok : namesOk names l.length = true) (hn : names.length ≤ 1000000) (hb : l.flatten.length ≤ 1000000) (hne : ∀ v ∈ l, v ≠ []) (htx : ∀ s ∈ names, s.length ≤ 4611686018427387904) : FnSpec Tryd.prog f_val_Object [encT names, encL l] [] (.tup [.osl 0 0, .int .i64 0]) [nodO (objVal names l) 0] := by
  obtain ⟨hp, hnd, hut⟩ := namesOk_iff.1 hok
  have hl' : ((names.length : Int) = (l.length : Int)) = True := eq_true (by omega)
  obtain ⟨hsrt, hget⟩ := srt_lookup hok
  have hsl : (sortS names).length = names.length := sortS_length names
  have hsm : ∀ nm ∈ sortS names, nm ∈ names := fun nm h => (sortS_perm names).mem_iff.1 h
  refine k_val_Object.madeNG (qs := [.int .i64 0]) (T := tabL Tryd.prog [(f_unicode_utf8_ValidString, ctrValidS), (f_slices_Values_L_string_string_, ctrValues), (f_slices_Sorted_string_, ctrSorted), (f_val_laid, ctrLaidA)]) 1 hD (kOk_tabL (tabOk_cons ctrValidS_ok (tabOk_cons ctrValues_ok (tabOk_cons ctrSorted_ok (tabOk_cons ctrLaidA_ok tabOk_nil))))) hmix (by decide) fun Q hQ => ?_
  try simp only [F_all]
  simp (maxSteps := 400000) only [↓preZ, postZ, coreZ, ↓preU, postU, D_all, F_all, unR, outL, onePV, binS, ↓binS, boundR, ↓boundR, fieldOf, ↓fieldOf, boxR, allocR, newObj, zeroElem, buildSliceR, appendR, setAll, storeR, St.freeze, makeSliceR, minmaxR, makeFuncR, BEq.rfl, reduceIte, reduceCtorEq, Nat.reduceLT, Nat.reduceAdd, Nat.reduceSub, Nat.reduceMul, Nat.reduceBEq, Nat.reduceLeDiff, Int.reduceToNat, Int.reduceLE, hQ, c_val_Object, hl', ↓opsM, makeMapR]
  refine wpc_loop (fun m S => ∃ i : Nat, i + m = names.length ∧ S = ⟨tmA 66 [(0, encT names), (1, encL l), (6, .omp 0 1), (21, encT names), (22, .int .i64 names.length), (23, .int .i64 i)], [mapO ((names.zip l).take i)]⟩) names.length ⟨0, by omega, ?_⟩ ?_
  · simp only [normR, keepR, Nat.reduceAdd, lkR, Nat.reduceBEq, F_all, List.map_nil]
    rfl
  rintro m S ⟨i, him, rfl⟩
  rcases Nat.lt_or_ge i names.length with h | h
  · have hlt : ((i : Int) < (names.length : Int)) = True := eq_true (by omega)
    have zi : (0 ≤ (i : Int)) = True := eq_true (by omega)
    have hgi := List.getElem?_eq_getElem h
    have hgl : l[i]? = some (l[i]'(by omega)) := List.getElem?_eq_getElem _
    have hx := htx _ (List.getElem_mem h)
    have hu := hut _ (List.getElem_mem h)
    generalize names[i] = nm at hgi hx hu
    generalize l[i]'(by omega) = v at hgl
    have hgz : (names.zip l)[i]? = some (nm, v) := by rw [List.getElem?_zip_eq_some]; exact ⟨hgi, hgl⟩
    have htz : (names.zip l).take (i + 1) = (names.zip l).take i ++ [(nm, v)] := by rw [List.take_add_one, hgz]; rfl
    have hfst : ((names.zip l).take i).map (·.1) = names.take i := by rw [List.map_take, List.map_fst_zip (by omega)]
    have hin : nm ∉ names.take i := fun hin => by
      have htk : names.take (i + 1) = names.take i ++ [nm] := by rw [List.take_add_one, hgi]; rfl
      have h2 : (names.take (i + 1)).Nodup := List.Pairwise.sublist (List.take_sublist _ _) hnd
      rw [htk, List.nodup_append] at h2
      exact absurd rfl (h2.2.2 nm hin nm (by simp))
    have hmf := mfind_none ((names.zip l).take i) 0 (by rw [hfst]; exact hin)
    unfold mapO
    simp (maxSteps := 400000) only [↓preZ, postZ, coreZ, ↓preU, postU, D_all, F_all, unR, outL, onePV, binS, ↓binS, boundR, ↓boundR, fieldOf, ↓fieldOf, boxR, allocR, newObj, zeroElem, buildSliceR, appendR, setAll, storeR, St.freeze, makeSliceR, minmaxR, makeFuncR, BEq.rfl, reduceIte, reduceCtorEq, Nat.reduceLT, Nat.reduceAdd, Nat.reduceSub, Nat.reduceMul, Nat.reduceBEq, Nat.reduceLeDiff, Int.reduceToNat, Int.reduceLE, hQ, hlt, zi, hgi, hgl, ↓ctrValidS, hu, ↓opsM, lookupR, mapUpdateR, hmf, foundR, extractR, true_or, mput]
    exact ⟨hx, ⟨by omega, by omega⟩, m - 1, by omega, i + 1, by omega, by rw [htz, List.map_append]; rfl⟩
  have hlt : ((i : Int) < (names.length : Int)) = False := eq_false (by omega)
  have htz : (names.zip l).take i = names.zip l := List.take_of_length_le (by simp; omega)
  rw [htz]
  unfold mapO
  simp (maxSteps := 400000) only [↓preZ, postZ, coreZ, ↓preU, postU, D_all, F_all, unR, outL, onePV, binS, ↓binS, boundR, ↓boundR, fieldOf, ↓fieldOf, boxR, allocR, newObj, zeroElem, buildSliceR, appendR, setAll, storeR, St.freeze, makeSliceR, minmaxR, makeFuncR, BEq.rfl, reduceIte, reduceCtorEq, Nat.reduceLT, Nat.reduceAdd, Nat.reduceSub, Nat.reduceMul, Nat.reduceBEq, Nat.reduceLeDiff, Int.reduceToNat, Int.reduceLE, hQ, hlt, ↓ctrValues, ↓ctrSorted, seqB]
  refine ⟨by omega, ?_⟩
  generalize sortS names = ss at *
  obtain ⟨P, hP⟩ : ∃ P : List UInt8 → Vl, P = fun nm => (getP (names.zip l) nm).getD [] := ⟨_, rfl⟩
  refine wpc_loop (fun m S => ∃ j : Nat, j + m = names.length ∧ ((j = 0 ∧ S = ⟨tmA 66 [(6, .omp 0 1), (11, encT ss), (12, .sl 0 [] (some true)), (50, encT ss), (51, .int .i64 ss.length), (52, .int .i64 j)], [mapO (names.zip l)]⟩) ∨
    (0 < j ∧ ∃ ver, S = ⟨tmA 66 [(6, .omp 0 1), (11, encT ss), (12, .osl 1 ver), (50, encT ss), (51, .int .i64 ss.length), (52, .int .i64 j)], [mapO (names.zip l), ⟨t_api_Val, 1, ((ss.take j).map P).map encV, true, ver⟩]⟩))) names.length ⟨0, by omega, .inl ⟨rfl, ?_⟩⟩ ?_
  · simp only [normR, keepR, Nat.reduceAdd, lkR, Nat.reduceBEq, F_all, List.map_nil]
    rfl
  rintro m' S ⟨j, hjm, hS⟩
  rcases Nat.lt_or_ge j ss.length with h' | h'
  · have hlt : ((j : Int) < (ss.length : Int)) = True := eq_true (by omega)
    have zj : (0 ≤ (j : Int)) = True := eq_true (by omega)
    have hgj := List.getElem?_eq_getElem h'
    have hm := hsm _ (List.getElem_mem h')
    generalize ss[j] = nm at hgj hm
    have htk : ss.take (j + 1) = ss.take j ++ [nm] := by rw [List.take_add_one, hgj]; rfl
    obtain ⟨v, hv, hvl⟩ := hget nm hm
    obtain ⟨j2, hj2⟩ := mfind_some _ 0 hv
    have hPv : P nm = v := by rw [hP]; simp [hv]
    rcases hS with ⟨rfl, rfl⟩ | ⟨h0, ver, rfl⟩
    · unfold mapO
      simp (maxSteps := 400000) only [↓preZ, postZ, coreZ, ↓preU, postU, D_all, F_all, unR, outL, onePV, binS, ↓binS, boundR, ↓boundR, fieldOf, ↓fieldOf, boxR, allocR, newObj, zeroElem, buildSliceR, appendR, setAll, storeR, St.freeze, makeSliceR, minmaxR, makeFuncR, BEq.rfl, reduceIte, reduceCtorEq, Nat.reduceLT, Nat.reduceAdd, Nat.reduceSub, Nat.reduceMul, Nat.reduceBEq, Nat.reduceLeDiff, Int.reduceToNat, Int.reduceLE, hQ, hlt, zj, hgj, ↓opsM, lookupR, hj2, foundR, true_or]
      refine ⟨⟨by omega, by omega⟩, m' - 1, by omega, 1, by omega, .inr ⟨by omega, 1, ?_⟩⟩
      rw [show ss.take 1 = [nm] from htk, List.map_cons, hPv]
      rfl
    · unfold mapO
      simp (maxSteps := 400000) only [↓preZ, postZ, coreZ, ↓preU, postU, D_all, F_all, unR, outL, onePV, binS, ↓binS, boundR, ↓boundR, fieldOf, ↓fieldOf, boxR, allocR, newObj, zeroElem, buildSliceR, appendR, setAll, storeR, St.freeze, makeSliceR, minmaxR, makeFuncR, BEq.rfl, reduceIte, reduceCtorEq, Nat.reduceLT, Nat.reduceAdd, Nat.reduceSub, Nat.reduceMul, Nat.reduceBEq, Nat.reduceLeDiff, Int.reduceToNat, Int.reduceLE, hQ, hlt, zj, hgj, ↓opsM, lookupR, hj2, foundR, true_or]
      have := List.length_take_le j ss
      refine ⟨by omega, by omega, ⟨by omega, by omega⟩, m' - 1, by omega, j + 1, by omega, .inr ⟨by omega, ver + 1, ?_⟩⟩
      rw [htk, List.map_append (f := P), List.map_append, List.map_cons, hPv]
      rfl
  have hlt : ((j : Int) < (ss.length : Int)) = False := eq_false (by omega)
  have hq : (ss.map fun nm => (nm, P nm)) = srtP (names.zip l) := by rw [hP]; exact hsrt
  have e : layV ss (ss.map P) = objVal names l := by
    have e : layV ss (ss.map P) = mkO (ss.map fun nm => (nm, P nm)) := by
      rw [← layV_mkO, List.map_map, List.map_map]
      congr 1
      exact (List.map_id ss).symm
    rw [e, hq]
    simp [objVal, hok]
  have hsn : ss.map P = (srtP (names.zip l)).map (·.2) := by
    rw [← hq, List.map_map]; rfl
  have hfl : (ss.map P).flatten.length ≤ 1000000 := by rw [hsn, srtP_flat hp]; exact hb
  have hnp : ∀ v ∈ ss.map P, v ≠ [] := fun v hv => by
    obtain ⟨nm, hn, rfl⟩ := List.mem_map.1 hv
    obtain ⟨v, hv, hvl⟩ := hget nm (hsm nm hn)
    have hPv : P nm = v := by rw [hP]; simp [hv]
    rw [hPv]
    exact hne v hvl
  have hlp : (ss.map P).length ≤ 1000000 := by rw [List.length_map]; omega
  rcases hS with ⟨hj0, rfl⟩ | ⟨h0, ver, rfl⟩
  · have hs0 : ss.length = 0 := by omega
    have hl0 : layV ss [] = objVal names l := by
      rw [← e]
      have : ss = [] := List.length_eq_zero_iff.1 hs0
      rw [this]; rfl
    simp (maxSteps := 400000) only [↓preZ, postZ, coreZ, ↓preU, postU, D_all, F_all, unR, outL, onePV, binS, ↓binS, boundR, ↓boundR, fieldOf, ↓fieldOf, boxR, allocR, newObj, zeroElem, buildSliceR, appendR, setAll, storeR, St.freeze, makeSliceR, minmaxR, makeFuncR, BEq.rfl, reduceIte, reduceCtorEq, Nat.reduceLT, Nat.reduceAdd, Nat.reduceSub, Nat.reduceMul, Nat.reduceBEq, Nat.reduceLeDiff, Int.reduceToNat, Int.reduceLE, hQ, hlt]
    refine wpc_weak _ (Weak.freeze 1 0 (Nat.zero_le _) _) ?_
    simp (maxSteps := 400000) only [↓preZ, postZ, coreZ, ↓preU, postU, D_all, F_all, unR, outL, onePV, binS, ↓binS, boundR, ↓boundR, fieldOf, ↓fieldOf, boxR, allocR, newObj, zeroElem, buildSliceR, appendR, setAll, storeR, St.freeze, makeSliceR, minmaxR, makeFuncR, BEq.rfl, reduceIte, reduceCtorEq, Nat.reduceLT, Nat.reduceAdd, Nat.reduceSub, Nat.reduceMul, Nat.reduceBEq, Nat.reduceLeDiff, Int.reduceToNat, Int.reduceLE, hQ, ↓ctrLaidA, rowB, ofRB]
    exact ⟨hs0, by simp, by simp, endNT (k := 0) (by decide) (by decide) rfl rfl rfl rfl (by rw [← hl0]; simp only [outO1, nodO, frzO_nodes]) (nodO_refs _ 0) rfl⟩
  simp (maxSteps := 400000) only [↓preZ, postZ, coreZ, ↓preU, postU, D_all, F_all, unR, outL, onePV, binS, ↓binS, boundR, ↓boundR, fieldOf, ↓fieldOf, boxR, allocR, newObj, zeroElem, buildSliceR, appendR, setAll, storeR, St.freeze, makeSliceR, minmaxR, makeFuncR, BEq.rfl, reduceIte, reduceCtorEq, Nat.reduceLT, Nat.reduceAdd, Nat.reduceSub, Nat.reduceMul, Nat.reduceBEq, Nat.reduceLeDiff, Int.reduceToNat, Int.reduceLE, hQ, hlt]
  refine wpc_weak _ (Weak.freeze 1 0 (Nat.zero_le _) _) ?_
  have f2 : ∀ x : Obj, frz 1 0 [x, ⟨t_api_Val, 1, List.map encV ((ss.take j).map P), true, ver⟩] (.osl 1 ver) = encL (ss.map P) := fun x => by
    simp only [frz, Nat.not_lt_zero, if_false, frzI, List.getElem?_cons_succ, List.getElem?_cons_zero, Nat.zero_le, decide_true, Bool.true_and, beq_self_eq_true, if_true]
    rw [map_frz_of encV fun _ => rfl, List.take_of_length_le h']; rfl
  simp (maxSteps := 400000) only [↓preZ, postZ, coreZ, ↓preU, postU, D_all, F_all, unR, outL, onePV, binS, ↓binS, boundR, ↓boundR, fieldOf, ↓fieldOf, boxR, allocR, newObj, zeroElem, buildSliceR, appendR, setAll, storeR, St.freeze, makeSliceR, minmaxR, makeFuncR, BEq.rfl, reduceIte, reduceCtorEq, Nat.reduceLT, Nat.reduceAdd, Nat.reduceSub, Nat.reduceMul, Nat.reduceBEq, Nat.reduceLeDiff, Int.reduceToNat, Int.reduceLE, hQ, ↓ctrLaidA, rowB, ofRB, f2]
  exact ⟨by rw [List.length_map] at hlp; exact hlp, hfl, hnp, endNT (k := 0) (by decide) (by decide) rfl rfl rfl rfl (by rw [← e]; simp only [outO1, nodO, frzO_nodes]) (nodO_refs _ 0) rfl⟩

theorem valObject_spec (names : List (List UInt8)) (l : List Vl) (hn : names.length ≤ 1000000) (hb : l.flatten.length ≤ 1000000) (hne : ∀ v ∈ l, v ≠ []) (htx : ∀ s ∈ names, s.length ≤ 4611686018427387904) : FnSpec Tryd.prog f_val_Object [encT names, encL l] [] (objR names l) [] := by
  cases hok : namesOk names l.length with
  | false => rw [show objR names l = _ from by simp only [objR, hok]; rfl]; exact valObject_bad names l hok hn htx
  | true =>
    have h := (valObject_made names l hok hn hb hne htx).froze2 rfl rfl rfl (nodO_refs _ 0)
    rw [show objR names l = .tup [encV (objVal names l), .int .i64 0] from by simp only [objR, hok]; rfl]
    exact h

theorem valObject_spec' (names : List (List UInt8)) (l : List Vl) (hn : names.length ≤ 1000000) (hb : l.flatten.length ≤ 1000000) (hne : ∀ v ∈ l, v ≠ []) (htx : ∀ s ∈ names, s.length ≤ 4611686018427387904) :
    FnSpec Tryd.prog f_val_Object [encT names, encL l] [] (.tup [encV (objVal names l), .int .i64 (objErr names l)]) [] :=
  (valObject_spec names l hn hb hne htx).res (objR_tells names l)

def ctrValObject : Ctr := fun args objs K => match args with
  | [a0, a1] => ofE encT a0 (HK.mk : HK fun names => ofE encL a1 (HK.mk : HK fun l => (names.length ≤ 1000000) ∧ (l.flatten.length ≤ 1000000) ∧ (∀ v ∈ l, v ≠ []) ∧ (∀ s ∈ names, s.length ≤ 4611686018427387904) ∧ K (.tup [encV (objVal names l), .int .i64 (objErr names l)]) objs 0))
  | _ => False
theorem ctrValObject_ok : CtrOk Tryd.prog f_val_Object (ctrValObject) := by
  intro args objs K h
  unfold ctrValObject at h
  split at h
  · rename_i a0 a1
    obtain ⟨names, rfl, l, rfl, h1, h2, h3, h4, hk⟩ := h
    exact ⟨_, _, _, .pure _ rfl (valObject_spec' names l h1 h2 h3 h4), hk⟩
  · exact h.elim
end Lp

/-! LpD7 -/

namespace Lp
open Go Go.Proofs

set_option maxHeartbeats 4000000
set_option maxRecDepth 20000
set_option linter.unusedSimpArgs false

def powB (m e : Int) : Bool := decide (-1000 ≤ e) && decide (e ≤ 1000) && decide (m + e ≤ 1000)

theorem isPower_spec (m e : Int) (hm : 0 ≤ m ∧ m ≤ 1000000) : FnSpec Tryd.prog f_num_isPower [.int .i64 m, .int .i64 e] [] (.bool (powB m e)) [] := by
  refine k_num_isPower.pureG (T := tabL Tryd.prog []) 0 hD (kOk_tabL tabOk_nil) hmix (by decide) fun Q hQ => ?_
  try simp only [F_all]
  rcases tf (-1000 ≤ e) with h1 | h1
  rotate_left 1
  · have hr : powB m e = false := by have : ¬ (-1000 ≤ e) := fun h => by rw [h1] at h; exact h
                                     simp [powB, this]
    simp (maxSteps := 400000) only [↓preZ, postZ, coreZ, ↓preU, postU, D_all, F_all, unR, outL, onePV, binS, ↓binS, boundR, ↓boundR, fieldOf, ↓fieldOf, boxR, allocR, newObj, zeroElem, buildSliceR, appendR, setAll, storeR, St.freeze, makeSliceR, minmaxR, makeFuncR, BEq.rfl, reduceIte, reduceCtorEq, Nat.reduceLT, Nat.reduceAdd, Nat.reduceSub, Nat.reduceMul, Nat.reduceBEq, Nat.reduceLeDiff, Int.reduceToNat, Int.reduceLE, hQ, c_num_isPower, h1, hr]
  rcases tf (e ≤ 1000) with h2 | h2
  rotate_left 1
  · have hr : powB m e = false := by have : ¬ (e ≤ 1000) := fun h => by rw [h2] at h; exact h
                                     simp [powB, this]
    simp (maxSteps := 400000) only [↓preZ, postZ, coreZ, ↓preU, postU, D_all, F_all, unR, outL, onePV, binS, ↓binS, boundR, ↓boundR, fieldOf, ↓fieldOf, boxR, allocR, newObj, zeroElem, buildSliceR, appendR, setAll, storeR, St.freeze, makeSliceR, minmaxR, makeFuncR, BEq.rfl, reduceIte, reduceCtorEq, Nat.reduceLT, Nat.reduceAdd, Nat.reduceSub, Nat.reduceMul, Nat.reduceBEq, Nat.reduceLeDiff, Int.reduceToNat, Int.reduceLE, hQ, c_num_isPower, h1, h2, hr]
  have h1' := of_eq_true h1
  have h2' := of_eq_true h2
  have hr : powB m e = decide (m + e ≤ 1000) := by simp [powB, h1', h2']
  simp (maxSteps := 400000) only [↓preZ, postZ, coreZ, ↓preU, postU, D_all, F_all, unR, outL, onePV, binS, ↓binS, boundR, ↓boundR, fieldOf, ↓fieldOf, boxR, allocR, newObj, zeroElem, buildSliceR, appendR, setAll, storeR, St.freeze, makeSliceR, minmaxR, makeFuncR, BEq.rfl, reduceIte, reduceCtorEq, Nat.reduceLT, Nat.reduceAdd, Nat.reduceSub, Nat.reduceMul, Nat.reduceBEq, Nat.reduceLeDiff, Int.reduceToNat, Int.reduceLE, hQ, c_num_isPower, h1, h2, hr]
  exact ⟨by omega, by omega⟩

def ctrIsPower : Ctr := fun args objs K => match args with
  | [.int .i64 m, .int .i64 e] => (0 ≤ m ∧ m ≤ 1000000) ∧ K (.bool (powB m e)) objs 0
  | _ => False
theorem ctrIsPower_ok : CtrOk Tryd.prog f_num_isPower (ctrIsPower) := by
  intro args objs K h
  unfold ctrIsPower at h
  split at h
  · rename_i m e
    obtain ⟨h1, hk⟩ := h
    exact ⟨_, _, _, .pure _ rfl (isPower_spec m e h1), hk⟩
  · exact h.elim

theorem isFigures_spec (s : List UInt8) (hs : s.length ≤ 4611686018427387904) : FnSpec Tryd.prog f_num_isFigures [.str s] [] (.bool (figs s)) [] := by
  refine k_num_isFigures.pureG (T := tabL Tryd.prog [(f_strings_TrimFunc, ctrTrimFig)]) 0 hD (kOk_tabL (tabOk_cons ctrTrimFig_ok tabOk_nil)) hmix (by decide) fun Q hQ => ?_
  try simp only [F_all]
  have hf := trimF_figs s
  simp (maxSteps := 400000) only [↓preZ, postZ, coreZ, ↓preU, postU, D_all, F_all, unR, outL, onePV, binS, ↓binS, boundR, ↓boundR, fieldOf, ↓fieldOf, boxR, allocR, newObj, zeroElem, buildSliceR, appendR, setAll, storeR, St.freeze, makeSliceR, minmaxR, makeFuncR, BEq.rfl, reduceIte, reduceCtorEq, Nat.reduceLT, Nat.reduceAdd, Nat.reduceSub, Nat.reduceMul, Nat.reduceBEq, Nat.reduceLeDiff, Int.reduceToNat, Int.reduceLE, hQ, c_num_isFigures, ↓ctrTrimFig]
  refine ⟨hs, ?_⟩
  rw [Bool.eq_iff_iff, ← hf, decide_eq_true_iff]
  constructor
  · intro h; rw [h]
  · intro h
    generalize Lib.trimF figP ⟨⟨s⟩⟩ = t at h
    obtain ⟨⟨t⟩⟩ := t
    have h' : t = [] := h
    rw [h']

def ctrIsFigures : Ctr := fun args objs K => match args with
  | [.str s] => (s.length ≤ 4611686018427387904) ∧ K (.bool (figs s)) objs 0
  | _ => False
theorem ctrIsFigures_ok : CtrOk Tryd.prog f_num_isFigures (ctrIsFigures) := by
  intro args objs K h
  unfold ctrIsFigures at h
  split at h
  · rename_i s
    obtain ⟨h1, hk⟩ := h
    exact ⟨_, _, _, .pure _ rfl (isFigures_spec s h1), hk⟩
  · exact h.elim

theorem numR_spec (n : Nd) (hk : n.kind = 3) (hn : n.name = []) (hs : n.s.length ≤ 4611686018427387904) : FnSpec Tryd.prog f_num_Right [encN n] [] (.bool (numB n)) [] := by
  refine k_num_Right.pureG (T := tabL Tryd.prog [(f_num_isPower, ctrIsPower), (f_num_isFigures, ctrIsFigures), (f_strings_Trim, ctrTrim0)]) 0 hD (kOk_tabL (tabOk_cons ctrIsPower_ok (tabOk_cons ctrIsFigures_ok (tabOk_cons ctrTrim0_ok tabOk_nil)))) hmix (by decide) fun Q hQ => ?_
  try simp only [F_all]
  simp (maxSteps := 400000) only [↓preZ, postZ, coreZ, ↓preU, postU, D_all, F_all, unR, outL, onePV, binS, ↓binS, boundR, ↓boundR, fieldOf, ↓fieldOf, boxR, allocR, newObj, zeroElem, buildSliceR, appendR, setAll, storeR, St.freeze, makeSliceR, minmaxR, makeFuncR, BEq.rfl, reduceIte, reduceCtorEq, Nat.reduceLT, Nat.reduceAdd, Nat.reduceSub, Nat.reduceMul, Nat.reduceBEq, Nat.reduceLeDiff, Int.reduceToNat, Int.reduceLE, hQ, c_num_Right]
  refine wpc_weak _ (Weak.freeze 1 0 (Nat.le_refl _) _) ?_
  have key := numB_iff n
  have hpw : ∀ b, powB n.s.length n.e = b → (b = true ↔ -1000 ≤ n.e ∧ n.e ≤ 1000 ∧ n.s.length + n.e ≤ 1000) := fun b hb => by
    rw [← hb]; simp [powB, and_assoc]
  cases hp : powB n.s.length n.e
  · have hr : numB n = false := bfalse fun h => by
      have g := (hpw _ hp).2 ⟨(key.1 h).2.2.2.1, (key.1 h).2.2.2.2.1, (key.1 h).2.2.2.2.2.1⟩
      cases g
    simp (maxSteps := 400000) only [↓preZ, postZ, coreZ, ↓preU, postU, D_all, F_all, unR, outL, onePV, binS, ↓binS, boundR, ↓boundR, fieldOf, ↓fieldOf, boxR, allocR, newObj, zeroElem, buildSliceR, appendR, setAll, storeR, St.freeze, makeSliceR, minmaxR, makeFuncR, BEq.rfl, reduceIte, reduceCtorEq, Nat.reduceLT, Nat.reduceAdd, Nat.reduceSub, Nat.reduceMul, Nat.reduceBEq, Nat.reduceLeDiff, Int.reduceToNat, Int.reduceLE, hQ, frzC0, ↓ctrIsPower, hk, hn, Int.reduceEq, hp, hr]
    refine fun h0 h1 => ⟨by omega, by omega⟩
  have hpw' := (hpw _ hp).1 rfl
  cases hf : figs n.s
  · have hr : numB n = false := bfalse fun h => by have := (key.1 h).2.1; rw [hf] at this; cases this
    simp (maxSteps := 400000) only [↓preZ, postZ, coreZ, ↓preU, postU, D_all, F_all, unR, outL, onePV, binS, ↓binS, boundR, ↓boundR, fieldOf, ↓fieldOf, boxR, allocR, newObj, zeroElem, buildSliceR, appendR, setAll, storeR, St.freeze, makeSliceR, minmaxR, makeFuncR, BEq.rfl, reduceIte, reduceCtorEq, Nat.reduceLT, Nat.reduceAdd, Nat.reduceSub, Nat.reduceMul, Nat.reduceBEq, Nat.reduceLeDiff, Int.reduceToNat, Int.reduceLE, hQ, frzC0, ↓ctrIsPower, ↓ctrIsFigures, hk, hn, Int.reduceEq, hp, hf, hr]
    refine fun h0 h1 => ⟨⟨by omega, by omega⟩, hs⟩
  by_cases hz : n.s = []
  · rw [if_pos hz] at key
    have hf0 : figs [] = true := rfl
    rw [hz] at hp key
    have hp0 : powB ((0 : Nat) : Int) n.e = true := hp
    simp (maxSteps := 400000) only [↓preZ, postZ, coreZ, ↓preU, postU, D_all, F_all, unR, outL, onePV, binS, ↓binS, boundR, ↓boundR, fieldOf, ↓fieldOf, boxR, allocR, newObj, zeroElem, buildSliceR, appendR, setAll, storeR, St.freeze, makeSliceR, minmaxR, makeFuncR, BEq.rfl, reduceIte, reduceCtorEq, Nat.reduceLT, Nat.reduceAdd, Nat.reduceSub, Nat.reduceMul, Nat.reduceBEq, Nat.reduceLeDiff, Int.reduceToNat, Int.reduceLE, hQ, frzC0, ↓ctrIsPower, ↓ctrIsFigures, hk, hn, Int.reduceEq, hp0, hf0, hz]
    refine ⟨fun h0 => ⟨fun h => absurd h (by omega), fun _ => ⟨⟨by omega, by omega⟩, fun hng => ?_, fun hng => ?_⟩⟩, fun h0 => bfalse fun hb => h0 (key.1 hb).1⟩
    · exact bfalse fun hb => by have := (key.1 hb).2.2.2.2.2.2.1; rw [hng] at this; cases this
    · rw [Bool.eq_iff_iff, decide_eq_true_iff, key]
      refine ⟨fun h => h.2.2.2.2.2.2.2, fun h => ⟨h0, rfl, by simp, hpw'.1, hpw'.2.1, by simp; omega, by simpa using hng, h⟩⟩
  · rw [if_neg hz] at key
    have htr := trimB_self n.s 48
    have hz' : (n.s = []) = False := eq_false hz
    simp (maxSteps := 400000) only [↓preZ, postZ, coreZ, ↓preU, postU, D_all, F_all, unR, outL, onePV, binS, ↓binS, boundR, ↓boundR, fieldOf, ↓fieldOf, boxR, allocR, newObj, zeroElem, buildSliceR, appendR, setAll, storeR, St.freeze, makeSliceR, minmaxR, makeFuncR, BEq.rfl, reduceIte, reduceCtorEq, Nat.reduceLT, Nat.reduceAdd, Nat.reduceSub, Nat.reduceMul, Nat.reduceBEq, Nat.reduceLeDiff, Int.reduceToNat, Int.reduceLE, hQ, frzC0, ↓ctrIsPower, ↓ctrIsFigures, ↓ctrTrim0, hk, hn, Int.reduceEq, hp, hf, hz']
    refine ⟨fun h0 => ⟨fun h => bfalse fun hb => ?_, fun h1 => ⟨⟨by omega, by omega⟩, hs, hs, ?_⟩⟩, fun h0 => bfalse fun hb => h0 (key.1 hb).1⟩
    · have := key.1 hb; omega
    · rw [Bool.eq_iff_iff, decide_eq_true_iff, key, htr]
      exact ⟨fun h => h.2.2.2.2.2.2, fun h => ⟨h0, hf, by omega, hpw'.1, hpw'.2.1, hpw'.2.2, h⟩⟩

def ctrNumR : Ctr := fun args objs K => match args with
  | [a0] => ofE encN a0 (HK.mk : HK fun n => (n.kind = 3) ∧ (n.name = []) ∧ (n.s.length ≤ 4611686018427387904) ∧ K (.bool (numB n)) objs 0)
  | _ => False
theorem ctrNumR_ok : CtrOk Tryd.prog f_num_Right (ctrNumR) := by
  intro args objs K h
  unfold ctrNumR at h
  split at h
  · rename_i a0
    obtain ⟨n, rfl, h1, h2, h3, hk⟩ := h
    exact ⟨_, _, _, .pure _ rfl (numR_spec n h1 h2 h3), hk⟩
  · exact h.elim

theorem isPlain_spec (n : Nd) (hl : n.s.length ≤ 4611686018427387904) : FnSpec Tryd.prog f_val_isPlain [encN n] [] (.bool (plainB n)) [] := by
  refine k_val_isPlain.pureG (T := tabL Tryd.prog [(f_unicode_utf8_ValidString, ctrValidS), (f_num_Right, ctrNumR)]) 0 hD (kOk_tabL (tabOk_cons ctrValidS_ok (tabOk_cons ctrNumR_ok tabOk_nil))) hmix (by decide) fun Q hQ => ?_
  try simp only [F_all]
  simp (maxSteps := 400000) only [↓preZ, postZ, coreZ, ↓preU, postU, D_all, F_all, unR, outL, onePV, binS, ↓binS, boundR, ↓boundR, fieldOf, ↓fieldOf, boxR, allocR, newObj, zeroElem, buildSliceR, appendR, setAll, storeR, St.freeze, makeSliceR, minmaxR, makeFuncR, BEq.rfl, reduceIte, reduceCtorEq, Nat.reduceLT, Nat.reduceAdd, Nat.reduceSub, Nat.reduceMul, Nat.reduceBEq, Nat.reduceLeDiff, Int.reduceToNat, Int.reduceLE, hQ, c_val_isPlain, nmP, enc6]
  refine wpc_weak _ (Weak.freeze 1 0 (Nat.le_refl _) _) ?_
  have hn0 : ∀ h, frz 1 0 [⟨t_api_Node, 6, [encN { kind := n.kind, many := n.many, name := [], s := n.s, neg := n.neg, e := n.e }], true, 1⟩] (.optr 0 1 0 0) = h → .addr (encN ⟨n.kind, n.many, [], n.s, n.neg, n.e⟩) = h := fun _ h => h
  have h8 : n.kind = 0 ∨ n.kind = 1 ∨ n.kind = 2 ∨ n.kind = 3 ∨ n.kind = 4 ∨ n.kind = 5 ∨ n.kind = 6 ∨ (n.kind ≠ 0 ∧ n.kind ≠ 1 ∧ n.kind ≠ 2 ∧ n.kind ≠ 3 ∧ n.kind ≠ 4 ∧ n.kind ≠ 5 ∧ n.kind ≠ 6) := by omega
  rcases h8 with hk | hk | hk | hk | hk | hk | hk | ⟨k0, k1, k2, k3, k4, k5, k6⟩
  · simp (maxSteps := 400000) only [↓preZ, postZ, coreZ, ↓preU, postU, D_all, F_all, unR, outL, onePV, binS, ↓binS, boundR, ↓boundR, fieldOf, ↓fieldOf, boxR, allocR, newObj, zeroElem, buildSliceR, appendR, setAll, storeR, St.freeze, makeSliceR, minmaxR, makeFuncR, BEq.rfl, reduceIte, reduceCtorEq, Nat.reduceLT, Nat.reduceAdd, Nat.reduceSub, Nat.reduceMul, Nat.reduceBEq, Nat.reduceLeDiff, Int.reduceToNat, Int.reduceLE, hQ, frzC0, ↓ctrValidS, ↓ctrNumR, hk, Int.reduceEq]
    rw [Bool.eq_iff_iff]
    simp [plainB, hk, and_assoc]
  · simp (maxSteps := 400000) only [↓preZ, postZ, coreZ, ↓preU, postU, D_all, F_all, unR, outL, onePV, binS, ↓binS, boundR, ↓boundR, fieldOf, ↓fieldOf, boxR, allocR, newObj, zeroElem, buildSliceR, appendR, setAll, storeR, St.freeze, makeSliceR, minmaxR, makeFuncR, BEq.rfl, reduceIte, reduceCtorEq, Nat.reduceLT, Nat.reduceAdd, Nat.reduceSub, Nat.reduceMul, Nat.reduceBEq, Nat.reduceLeDiff, Int.reduceToNat, Int.reduceLE, hQ, frzC0, ↓ctrValidS, ↓ctrNumR, hk, Int.reduceEq]
    rw [Bool.eq_iff_iff]
    simp [plainB, hk, and_assoc]
  · simp (maxSteps := 400000) only [↓preZ, postZ, coreZ, ↓preU, postU, D_all, F_all, unR, outL, onePV, binS, ↓binS, boundR, ↓boundR, fieldOf, ↓fieldOf, boxR, allocR, newObj, zeroElem, buildSliceR, appendR, setAll, storeR, St.freeze, makeSliceR, minmaxR, makeFuncR, BEq.rfl, reduceIte, reduceCtorEq, Nat.reduceLT, Nat.reduceAdd, Nat.reduceSub, Nat.reduceMul, Nat.reduceBEq, Nat.reduceLeDiff, Int.reduceToNat, Int.reduceLE, hQ, frzC0, ↓ctrValidS, ↓ctrNumR, hk, Int.reduceEq]
    rw [Bool.eq_iff_iff]
    simp [plainB, hk, and_assoc]
  · simp (maxSteps := 400000) only [↓preZ, postZ, coreZ, ↓preU, postU, D_all, F_all, unR, outL, onePV, binS, ↓binS, boundR, ↓boundR, fieldOf, ↓fieldOf, boxR, allocR, newObj, zeroElem, buildSliceR, appendR, setAll, storeR, St.freeze, makeSliceR, minmaxR, makeFuncR, BEq.rfl, reduceIte, reduceCtorEq, Nat.reduceLT, Nat.reduceAdd, Nat.reduceSub, Nat.reduceMul, Nat.reduceBEq, Nat.reduceLeDiff, Int.reduceToNat, Int.reduceLE, hQ, frzC0, ↓ctrValidS, ↓ctrNumR, hk, Int.reduceEq]
    refine ⟨hl, ?_⟩
    simp [plainB, hk, numB]
  · simp (maxSteps := 400000) only [↓preZ, postZ, coreZ, ↓preU, postU, D_all, F_all, unR, outL, onePV, binS, ↓binS, boundR, ↓boundR, fieldOf, ↓fieldOf, boxR, allocR, newObj, zeroElem, buildSliceR, appendR, setAll, storeR, St.freeze, makeSliceR, minmaxR, makeFuncR, BEq.rfl, reduceIte, reduceCtorEq, Nat.reduceLT, Nat.reduceAdd, Nat.reduceSub, Nat.reduceMul, Nat.reduceBEq, Nat.reduceLeDiff, Int.reduceToNat, Int.reduceLE, hQ, frzC0, ↓ctrValidS, ↓ctrNumR, hk, Int.reduceEq]
    refine ⟨hl, ?_⟩
    cases hu : utf n.s
    · simp [ifP, plainB, hk, hu]
    · simp only [ifR]
      rw [Bool.eq_iff_iff]
      simp [plainB, hk, hu, and_assoc]
  · simp (maxSteps := 400000) only [↓preZ, postZ, coreZ, ↓preU, postU, D_all, F_all, unR, outL, onePV, binS, ↓binS, boundR, ↓boundR, fieldOf, ↓fieldOf, boxR, allocR, newObj, zeroElem, buildSliceR, appendR, setAll, storeR, St.freeze, makeSliceR, minmaxR, makeFuncR, BEq.rfl, reduceIte, reduceCtorEq, Nat.reduceLT, Nat.reduceAdd, Nat.reduceSub, Nat.reduceMul, Nat.reduceBEq, Nat.reduceLeDiff, Int.reduceToNat, Int.reduceLE, hQ, frzC0, ↓ctrValidS, ↓ctrNumR, hk, Int.reduceEq]
    refine ⟨fun hm => ?_, fun hm => ?_⟩
    · rw [Bool.eq_iff_iff]
      simp [plainB, hk, hm, and_assoc]
    · simp [plainB, hk, hm]
  · simp (maxSteps := 400000) only [↓preZ, postZ, coreZ, ↓preU, postU, D_all, F_all, unR, outL, onePV, binS, ↓binS, boundR, ↓boundR, fieldOf, ↓fieldOf, boxR, allocR, newObj, zeroElem, buildSliceR, appendR, setAll, storeR, St.freeze, makeSliceR, minmaxR, makeFuncR, BEq.rfl, reduceIte, reduceCtorEq, Nat.reduceLT, Nat.reduceAdd, Nat.reduceSub, Nat.reduceMul, Nat.reduceBEq, Nat.reduceLeDiff, Int.reduceToNat, Int.reduceLE, hQ, frzC0, ↓ctrValidS, ↓ctrNumR, hk, Int.reduceEq]
    refine ⟨fun hm => ?_, fun hm => ?_⟩
    · rw [Bool.eq_iff_iff]
      simp [plainB, hk, hm, and_assoc]
    · simp [plainB, hk, hm]
  · simp (maxSteps := 400000) only [↓preZ, postZ, coreZ, ↓preU, postU, D_all, F_all, unR, outL, onePV, binS, ↓binS, boundR, ↓boundR, fieldOf, ↓fieldOf, boxR, allocR, newObj, zeroElem, buildSliceR, appendR, setAll, storeR, St.freeze, makeSliceR, minmaxR, makeFuncR, BEq.rfl, reduceIte, reduceCtorEq, Nat.reduceLT, Nat.reduceAdd, Nat.reduceSub, Nat.reduceMul, Nat.reduceBEq, Nat.reduceLeDiff, Int.reduceToNat, Int.reduceLE, hQ, frzC0, ↓ctrValidS, ↓ctrNumR, k0, k1, k2, k3, k4, k5, k6]
    simp [plainB, k0, k1, k2, k3, k4, k5, k6]

def ctrIsPlain : Ctr := fun args objs K => match args with
  | [a0] => ofE encN a0 (HK.mk : HK fun n => (n.s.length ≤ 4611686018427387904) ∧ K (.bool (plainB n)) objs 0)
  | _ => False
theorem ctrIsPlain_ok : CtrOk Tryd.prog f_val_isPlain (ctrIsPlain) := by
  intro args objs K h
  unfold ctrIsPlain at h
  split at h
  · rename_i a0
    obtain ⟨n, rfl, h1, hk⟩ := h
    exact ⟨_, _, _, .pure _ rfl (isPlain_spec n h1), hk⟩
  · exact h.elim
end Lp
