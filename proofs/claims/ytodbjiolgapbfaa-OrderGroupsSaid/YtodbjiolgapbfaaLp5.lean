/-
  Part 5 of what the statement rests on: LpP1, LpP2, LpP3, LpW26, LpW27, LpN1, LpN2, LpN3, LpW28, LpW29, LpX, LpRd, LpL5. No condition.
-/
import Derived.Test.YtodbjiolgapbfaaLp4
import Derived.Deep.Slices
import Derived.ChangeShapes
import Derived.SizedLaws
import Derived.JoinedOf
import Derived.Below
import Derived.Carry
import Derived.ChangeOld
import Derived.RowKit
import Derived.OpenShut

set_option linter.all false

/-! LpP1 -/

namespace Lp
open Go

/-- A comparison of places. -/
structure Cm (Dm : Int → Prop) (c : Int → Int → Int) : Prop where
  anti : ∀ x y, Dm x → Dm y → c y x = - c x y
  trans : ∀ x y z, Dm x → Dm y → Dm z → c x y ≤ 0 → c y z ≤ 0 → c x z ≤ 0

/-- Ahead: the key is less, or the same and the place is. -/
def Ah (c : Int → Int → Int) (x y : Int) : Prop := c x y < 0 ∨ (c x y = 0 ∧ x < y)

variable {Dm : Int → Prop} {c : Int → Int → Int}

theorem Cm.refl (h : Cm Dm c) {x : Int} (hx : Dm x) : c x x = 0 := by have := h.anti x x hx hx; omega

theorem Ah.trans (h : Cm Dm c) {x y z : Int} (hx : Dm x) (hy : Dm y) (hz : Dm z) (h1 : Ah c x y) (h2 : Ah c y z) : Ah c x z := by
  have a1 := h.anti x y hx hy
  have a2 := h.anti y z hy hz
  have a3 := h.anti x z hx hz
  have l1 : c x y ≤ 0 := by rcases h1 with h1 | h1 <;> omega
  have l2 : c y z ≤ 0 := by rcases h2 with h2 | h2 <;> omega
  have l3 := h.trans x y z hx hy hz l1 l2
  by_cases h0 : c x z = 0
  · have m1 := h.trans z x y hz hx hy (by omega) l1
    have m2 := h.trans y z x hy hz hx l2 (by omega)
    rcases h1 with h1 | h1 <;> rcases h2 with h2 | h2 <;> first | omega | exact .inr ⟨h0, by omega⟩
  · exact .inl (by omega)

theorem Ah.asymm (h : Cm Dm c) {x y : Int} (hx : Dm x) (hy : Dm y) (h1 : Ah c x y) : ¬ Ah c y x := by
  have a1 := h.anti x y hx hy
  rintro (h2 | h2) <;> rcases h1 with h1 | h1 <;> omega

theorem Ah.total (h : Cm Dm c) {x y : Int} (hx : Dm x) (hy : Dm y) (hne : x ≠ y) : Ah c x y ∨ Ah c y x := by
  have a1 := h.anti x y hx hy
  unfold Ah
  omega

theorem merge_ah (h : Cm Dm c) (lt : Int → Int → Bool) (hlt : ∀ x y, Dm x → Dm y → (lt x y = true ↔ c x y < 0)) : ∀ (a b : List Int), (∀ x ∈ a, Dm x) → (∀ x ∈ b, Dm x) → (∀ x ∈ a, ∀ y ∈ b, x < y) → a.Pairwise (Ah c) → b.Pairwise (Ah c) →
    (List.merge a b fun x y => !lt y x).Pairwise (Ah c)
  | [], b, _, _, _, _, hb => by rw [List.nil_merge]; exact hb
  | a, [], _, _, _, ha, _ => by rw [List.merge_right]; exact ha
  | x :: a, y :: b, da, db, hab, ha, hb => by
    have dx := da x (by simp)
    have dy := db y (by simp)
    rw [List.cons_merge_cons]
    split
    · rename_i hh
      have hn : ¬ c y x < 0 := fun e => by rw [(hlt y x dy dx).2 e] at hh; cases hh
      have a1 := h.anti x y dx dy
      have hxy : Ah c x y := by
        have := hab x (by simp) y (by simp)
        unfold Ah; omega
      refine List.pairwise_cons.2 ⟨fun z hz => ?_, merge_ah h lt hlt a (y :: b) (fun q hq => da q (by simp [hq])) db (fun q hq r hr => hab q (by simp [hq]) r hr) (List.pairwise_cons.1 ha).2 hb⟩
      rcases List.mem_append.1 ((List.merge_perm_append (le := fun x y => !lt y x)).mem_iff.1 hz) with hz | hz
      · exact (List.pairwise_cons.1 ha).1 z hz
      · rcases List.mem_cons.1 hz with rfl | hz
        · exact hxy
        · exact hxy.trans h dx dy (db z (by simp [hz])) ((List.pairwise_cons.1 hb).1 z hz)
    · rename_i hh
      have hyx : Ah c y x := .inl ((hlt y x dy dx).1 (by simpa using hh))
      refine List.pairwise_cons.2 ⟨fun z hz => ?_, merge_ah h lt hlt (x :: a) b da (fun q hq => db q (by simp [hq])) (fun q hq r hr => hab q hq r (by simp [hr])) ha (List.pairwise_cons.1 hb).2⟩
      rcases List.mem_append.1 ((List.merge_perm_append (le := fun x y => !lt y x)).mem_iff.1 hz) with hz | hz
      · rcases List.mem_cons.1 hz with rfl | hz
        · exact hyx
        · exact hyx.trans h dy dx (da z (by simp [hz])) ((List.pairwise_cons.1 ha).1 z hz)
      · exact (List.pairwise_cons.1 hb).1 z hz
  termination_by a b => a.length + b.length

theorem sortF_ah (h : Cm Dm c) (lt : Int → Int → Bool) (hlt : ∀ x y, Dm x → Dm y → (lt x y = true ↔ c x y < 0)) : ∀ (k : Nat) (l : List Int), l.length ≤ k + 1 → (∀ x ∈ l, Dm x) → l.Pairwise (· < ·) → (sortF lt k l).Pairwise (Ah c)
  | 0, l, hl, _, _ => by
    rw [sortF]
    match l, hl with
    | [], _ => exact .nil
    | [x], _ => exact List.pairwise_singleton _ _
  | k + 1, l, hl, hd, hp => by
    rw [sortF]
    split
    · rename_i h2
      match l, h2 with
      | [], _ => exact .nil
      | [x], _ => exact List.pairwise_singleton _ _
    · rename_i h2
      have p1 := sortF_perm lt k (l.take (l.length / 2))
      have p2 := sortF_perm lt k (l.drop (l.length / 2))
      have hsp : ∀ x ∈ l.take (l.length / 2), ∀ y ∈ l.drop (l.length / 2), x < y := by
        have := hp
        rw [← List.take_append_drop (l.length / 2) l, List.pairwise_append] at this
        exact this.2.2
      refine merge_ah h lt hlt _ _ (fun x hx => hd x (List.mem_of_mem_take (p1.mem_iff.1 hx))) (fun x hx => hd x (List.mem_of_mem_drop (p2.mem_iff.1 hx))) (fun x hx y hy => hsp x (p1.mem_iff.1 hx) y (p2.mem_iff.1 hy)) ?_ ?_
      · exact sortF_ah h lt hlt k _ (by simp; omega) (fun x hx => hd x (List.mem_of_mem_take hx)) (hp.sublist (List.take_sublist _ _))
      · exact sortF_ah h lt hlt k _ (by simp; omega) (fun x hx => hd x (List.mem_of_mem_drop hx)) (hp.sublist (List.drop_sublist _ _))

/-! ### Keys -/

def keyAt (keys : List Vl) (x : Int) : Vl := keys.getD x.toNat []

def cK (f : Nat) (keys : List Vl) (x y : Int) : Int := cmpV f (keyAt keys x) (keyAt keys y)

/-- Keys that are right, and not too long. -/
def KeysOk (f : Nat) (keys : List Vl) : Prop := ∀ v ∈ keys, v.length ≤ f ∧ Rt v

theorem keyAt_some {keys : List Vl} {x : Int} (hx : InL keys x) : keys[x.toNat]? = some (keyAt keys x) := by
  have h1 := hx.1
  have h2 := hx.2
  have hl : x.toNat < keys.length := by omega
  rw [keyAt, List.getD_eq_getElem?_getD, List.getElem?_eq_getElem hl]
  rfl

theorem keyAt_ok {f : Nat} {keys : List Vl} (hk : KeysOk f keys) {x : Int} (hx : InL keys x) : (keyAt keys x).length ≤ f ∧ Rt (keyAt keys x) :=
  hk _ (List.mem_of_getElem? (keyAt_some hx))

theorem cK_cm {f : Nat} {keys : List Vl} (hk : KeysOk f keys) : Cm (InL keys) (cK f keys) :=
  ⟨fun x y hx hy => (cmpW_ordr f).anti _ _ (keyAt_ok hk hx) (keyAt_ok hk hy), fun x y z hx hy hz h1 h2 => (cmpW_ordr f).trans _ _ _ (keyAt_ok hk hx) (keyAt_ok hk hy) (keyAt_ok hk hz) h1 h2⟩

theorem ltK_cK {f : Nat} {keys : List Vl} {x y : Int} (hx : InL keys x) (hy : InL keys y) : ltK f keys x y = true ↔ cK f keys x y < 0 := by
  simp only [ltK, keyAt_some hx, keyAt_some hy, decide_eq_true_eq, cK]

theorem places_lt (n : Nat) : (places n).Pairwise (· < ·) := by
  rw [places, List.pairwise_map]
  exact (List.pairwise_lt_range (n := n)).imp fun h => by omega

theorem places_in (keys : List Vl) : ∀ x ∈ places keys.length, InL keys x := by
  intro x hx
  simp only [places, List.mem_map, List.mem_range] at hx
  obtain ⟨j, hj, rfl⟩ := hx
  exact ⟨by omega, by omega⟩

theorem sortV_perm (f : Nat) (keys : List Vl) : (sortV f keys).Perm (places keys.length) := sortF_perm _ _ _

theorem sortV_ah {f : Nat} {keys : List Vl} (hk : KeysOk f keys) : (sortV f keys).Pairwise (Ah (cK f keys)) :=
  sortF_ah (cK_cm hk) _ (fun _ _ hx hy => ltK_cK hx hy) _ _ (by simp [places]) (places_in keys) (places_lt _)

theorem sortV_nodup (f : Nat) (keys : List Vl) : (sortV f keys).Nodup := by
  refine (sortV_perm f keys).nodup_iff.2 ?_
  exact (places_lt keys.length).imp fun h => by omega

/-- Of one order there is one row. -/
theorem ah_unique (h : Cm Dm c) : ∀ (l m : List Int), (∀ x ∈ l, Dm x) → l.Perm m → l.Pairwise (Ah c) → m.Pairwise (Ah c) → l = m
  | [], m, _, hp, _, _ => by rw [List.Perm.nil_eq hp]
  | x :: l, [], _, hp, _, _ => by have := hp.length_eq; simp at this
  | x :: l, y :: m, hd, hp, hl, hm => by
    have dy : Dm y := hd y (hp.mem_iff.2 (by simp))
    have dx : Dm x := hd x (by simp)
    have hxy : x = y := by
      apply Classical.byContradiction
      intro hne
      have h1 : y ∈ l := by
        have := hp.mem_iff.2 (List.mem_cons_self (a := y) (l := m))
        rcases List.mem_cons.1 this with e | e
        · exact absurd e.symm hne
        · exact e
      have h2 : x ∈ m := by
        have := hp.mem_iff.1 (List.mem_cons_self (a := x) (l := l))
        rcases List.mem_cons.1 this with e | e
        · exact absurd e hne
        · exact e
      exact ((List.pairwise_cons.1 hl).1 y h1).asymm h dx dy ((List.pairwise_cons.1 hm).1 x h2)
    subst hxy
    rw [ah_unique h l m (fun z hz => hd z (by simp [hz])) (List.Perm.cons_inv hp) (List.pairwise_cons.1 hl).2 (List.pairwise_cons.1 hm).2]

end Lp

/-! LpP2 -/

namespace Lp
open Go

variable {Dm : Int → Prop} {c : Int → Int → Int}

def hd (g : List Int) : Int := g.headD 0

/-- A group: not empty, all of one key. -/
def GrpOk (c : Int → Int → Int) (g : List Int) : Prop := g ≠ [] ∧ ∀ x ∈ g, c x (hd g) = 0

theorem grpF_ok (h : Cm Dm c) (same : Int → Int → Bool) (hs : ∀ x y, Dm x → Dm y → (same x y = true ↔ c x y = 0)) : ∀ (l : List Int) (D : List (List Int)) (q : Int) (qs : List Int), (D.flatten ++ (q :: qs) ++ l).Pairwise (Ah c) → (∀ x ∈ D.flatten ++ (q :: qs) ++ l, Dm x) →
    (∀ g ∈ D ++ [q :: qs], GrpOk c g) → (D ++ [q :: qs]).Pairwise (fun g g' => c (hd g) (hd g') < 0) →
    (∀ g ∈ grpF same D q qs l, GrpOk c g) ∧ (grpF same D q qs l).Pairwise (fun g g' => c (hd g) (hd g') < 0) ∧ (grpF same D q qs l).flatten = D.flatten ++ (q :: qs) ++ l
  | [], D, q, qs, _, _, hg, hp => ⟨hg, hp, by simp [grpF]⟩
  | x :: l, D, q, qs, hah, hd', hg, hp => by
    have dq : Dm q := hd' q (by simp)
    have dx : Dm x := hd' x (by simp)
    rw [grpF]
    split
    · rename_i hsx
      have hc0 := (hs x q dx dq).1 hsx
      have e : D.flatten ++ (q :: (qs ++ [x])) ++ l = D.flatten ++ (q :: qs) ++ (x :: l) := by simp
      refine ⟨?_, ?_, ?_⟩
      all_goals
        have := grpF_ok h same hs l D q (qs ++ [x]) (by rw [e]; exact hah) (by rw [e]; exact hd') ?_ ?_
      · exact this.1
      · intro g hgm
        rcases List.mem_append.1 hgm with hgm | hgm
        · exact hg g (List.mem_append_left _ hgm)
        · simp only [List.mem_singleton] at hgm
          subst hgm
          refine ⟨by simp, fun y hy => ?_⟩
          have h2 := (hg (q :: qs) (by simp)).2
          simp only [hd, List.headD_cons] at h2 ⊢
          rcases List.mem_cons.1 hy with rfl | hy
          · exact h2 y (by simp)
          · rcases List.mem_append.1 hy with hy | hy
            · exact h2 y (by simp [hy])
            · simp only [List.mem_singleton] at hy; subst hy; exact hc0
      · rw [List.pairwise_append] at hp ⊢
        refine ⟨hp.1, List.pairwise_singleton _ _, fun g hgm g' hgm' => ?_⟩
        simp only [List.mem_singleton] at hgm'
        subst hgm'
        exact hp.2.2 g hgm (q :: qs) (by simp)
      · exact this.2.1
      · intro g hgm
        rcases List.mem_append.1 hgm with hgm | hgm
        · exact hg g (List.mem_append_left _ hgm)
        · simp only [List.mem_singleton] at hgm
          subst hgm
          refine ⟨by simp, fun y hy => ?_⟩
          have h2 := (hg (q :: qs) (by simp)).2
          simp only [hd, List.headD_cons] at h2 ⊢
          rcases List.mem_cons.1 hy with rfl | hy
          · exact h2 y (by simp)
          · rcases List.mem_append.1 hy with hy | hy
            · exact h2 y (by simp [hy])
            · simp only [List.mem_singleton] at hy; subst hy; exact hc0
      · rw [List.pairwise_append] at hp ⊢
        refine ⟨hp.1, List.pairwise_singleton _ _, fun g hgm g' hgm' => ?_⟩
        simp only [List.mem_singleton] at hgm'
        subst hgm'
        exact hp.2.2 g hgm (q :: qs) (by simp)
      · rw [this.2.2, e]
      · intro g hgm
        rcases List.mem_append.1 hgm with hgm | hgm
        · exact hg g (List.mem_append_left _ hgm)
        · simp only [List.mem_singleton] at hgm
          subst hgm
          refine ⟨by simp, fun y hy => ?_⟩
          have h2 := (hg (q :: qs) (by simp)).2
          simp only [hd, List.headD_cons] at h2 ⊢
          rcases List.mem_cons.1 hy with rfl | hy
          · exact h2 y (by simp)
          · rcases List.mem_append.1 hy with hy | hy
            · exact h2 y (by simp [hy])
            · simp only [List.mem_singleton] at hy; subst hy; exact hc0
      · rw [List.pairwise_append] at hp ⊢
        refine ⟨hp.1, List.pairwise_singleton _ _, fun g hgm g' hgm' => ?_⟩
        simp only [List.mem_singleton] at hgm'
        subst hgm'
        exact hp.2.2 g hgm (q :: qs) (by simp)
    · rename_i hsx
      have hqx : Ah c q x := by
        rw [List.pairwise_append] at hah
        exact hah.2.2 q (by simp) x (by simp)
      have anti := h.anti q x dq dx
      have hne : c x q ≠ 0 := fun e => hsx ((hs x q dx dq).2 e)
      have hlt : c q x < 0 := by rcases hqx with e | e <;> omega
      have e : (D ++ [q :: qs]).flatten ++ [x] ++ l = D.flatten ++ (q :: qs) ++ (x :: l) := by simp
      have := grpF_ok h same hs l (D ++ [q :: qs]) x [] (by rw [e]; exact hah) (by rw [e]; exact hd') (fun g hgm => by
        rcases List.mem_append.1 hgm with hgm | hgm
        · exact hg g hgm
        · simp only [List.mem_singleton] at hgm
          subst hgm
          refine ⟨by simp, fun y hy => ?_⟩
          simp only [List.mem_singleton] at hy
          subst hy
          exact h.refl dx) (by
        refine List.pairwise_append.2 ⟨hp, List.pairwise_singleton _ _, fun g hgm g' hgm' => ?_⟩
        simp only [List.mem_singleton] at hgm'
        subst hgm'
        show c (hd g) x < 0
        rcases List.mem_append.1 hgm with hgm | hgm
        · have h1 := (List.pairwise_append.1 hp).2.2 g hgm (q :: qs) (by simp)
          simp only [hd, List.headD_cons] at h1
          have hgd : g.headD 0 ∈ g := by
            have := (hg g (List.mem_append_left _ hgm)).1
            cases g with
            | nil => exact absurd rfl this
            | cons y ys => simp
          have dg : Dm (g.headD 0) := hd' _ (by
            refine List.mem_append_left _ (List.mem_append_left _ ?_)
            exact List.mem_flatten.2 ⟨g, hgm, hgd⟩)
          have h2 := h.trans _ _ _ dg dq dx (Int.le_of_lt h1) (Int.le_of_lt hlt)
          have a2 := h.anti _ _ dg dx
          have a3 := h.anti _ _ dg dq
          have h3 := h.trans _ _ _ dx dg dq
          show c (g.headD 0) x < 0
          omega
        · simp only [List.mem_singleton] at hgm
          subst hgm
          exact hlt)
      rw [e] at this
      exact this

theorem sameK_cK {f : Nat} {keys : List Vl} {x y : Int} (hx : InL keys x) (hy : InL keys y) : sameK numN f keys x y = true ↔ cK f keys x y = 0 := by
  simp only [sameK, keyAt_some hx, keyAt_some hy, decide_eq_true_eq, cK]

theorem groupsV_ok {f : Nat} {keys : List Vl} (hk : KeysOk f keys) : (∀ g ∈ groupsV f keys, GrpOk (cK f keys) g) ∧ (groupsV f keys).Pairwise (fun g g' => cK f keys (hd g) (hd g') < 0) ∧ (groupsV f keys).flatten = sortV f keys := by
  have hah := sortV_ah hk
  have hin := sortV_in f keys
  rw [groupsV]
  generalize sortV f keys = l at *
  cases l with
  | nil => simp [groupsF]
  | cons x l =>
    have := grpF_ok (cK_cm hk) (sameK numN f keys) (fun x y hx hy => sameK_cK hx hy) l [] x [] (by simpa using hah) (by simpa using hin) (fun g hg => by
      simp only [List.nil_append, List.mem_singleton] at hg
      subst hg
      refine ⟨by simp, fun y hy => ?_⟩
      simp only [List.mem_singleton] at hy
      subst hy
      exact (cK_cm hk).refl (hin y (by simp))) (by simp)
    simpa [groupsF] using this

end Lp

/-! LpP3 -/

namespace Lp
open Go

instance (c : Int → Int → Int) (x y : Int) : Decidable (Ah c x y) := inferInstanceAs (Decidable (_ ∨ _))

def ahB (f : Nat) (keys : List Vl) (i j : Nat) : Bool := decide (cK f keys (j : Int) (i : Int) < 0) || (decide (cK f keys (j : Int) (i : Int) = 0) && decide (j < i))

theorem ahB_iff {f : Nat} {keys : List Vl} {i j : Nat} : ahB f keys i j = true ↔ Ah (cK f keys) (j : Int) (i : Int) := by
  simp only [ahB, Ah, Bool.or_eq_true, Bool.and_eq_true, decide_eq_true_eq, Int.ofNat_lt]

/-- How many of the first k places are ahead of i. -/
def cntB (f : Nat) (keys : List Vl) (i k : Nat) : Nat := (List.range k).countP (ahB f keys i)

theorem cntB_succ (f : Nat) (keys : List Vl) (i k : Nat) : cntB f keys i (k + 1) = cntB f keys i k + if ahB f keys i k then 1 else 0 := by
  rw [cntB, List.range_succ, List.countP_append]
  simp [cntB, List.countP_cons]

theorem cntB_le (f : Nat) (keys : List Vl) (i k : Nat) : cntB f keys i k ≤ k := by
  have := List.countP_le_length (p := ahB f keys i) (l := List.range k)
  simpa [cntB] using this

theorem rank_at {f : Nat} {keys : List Vl} (hk : KeysOk f keys) {p : Nat} {i : Nat} (hp : (sortV f keys)[p]? = some (i : Int)) : cntB f keys i keys.length = p := by
  have cm := cK_cm hk
  have hin := sortV_in f keys
  have hah := sortV_ah hk
  have hperm := sortV_perm f keys
  have e1 : cntB f keys i keys.length = (places keys.length).countP (fun x => decide (Ah (cK f keys) x (i : Int))) := by
    rw [places, List.countP_map, cntB]
    congr 1
    funext j
    rw [Bool.eq_iff_iff, ahB_iff]
    simp
  rw [e1, ← hperm.countP_eq]
  generalize sortV f keys = l at *
  obtain ⟨hlt, he⟩ := List.getElem?_eq_some_iff.1 hp
  have hsplit : l = l.take p ++ (i : Int) :: l.drop (p + 1) := by
    rw [← he, ← List.drop_eq_getElem_cons hlt, List.take_append_drop]
  have hi : InL keys (i : Int) := hin _ (List.mem_of_getElem? hp)
  rw [hsplit] at hah hin ⊢
  rw [List.pairwise_append, List.pairwise_cons] at hah
  rw [List.countP_append, List.countP_cons]
  have h1 : (l.take p).countP (fun x => decide (Ah (cK f keys) x (i : Int))) = (l.take p).length := by
    rw [List.countP_eq_length]
    intro x hx
    exact decide_eq_true (hah.2.2 x hx (i : Int) (by simp))
  have h2 : (l.drop (p + 1)).countP (fun x => decide (Ah (cK f keys) x (i : Int))) = 0 := by
    rw [List.countP_eq_zero]
    intro x hx
    simp only [decide_eq_true_eq]
    exact (hah.2.1.1 x hx).asymm cm hi (hin x (by simp [hx]))
  have h3 : decide (Ah (cK f keys) (i : Int) (i : Int)) = false := decide_eq_false fun h => by
    have := cm.refl hi
    rcases h with h | h <;> omega
  rw [h1, h2, h3]
  simp
  omega

theorem sortV_has (f : Nat) (keys : List Vl) {i : Nat} (hi : i < keys.length) : ∃ p, p < keys.length ∧ (sortV f keys)[p]? = some (i : Int) := by
  have : (i : Int) ∈ sortV f keys := by
    rw [(sortV_perm f keys).mem_iff, places, List.mem_map]
    exact ⟨i, List.mem_range.2 hi, rfl⟩
  obtain ⟨p, hp, he⟩ := List.getElem_of_mem this
  exact ⟨p, by rw [sortV_len] at hp; exact hp, by rw [List.getElem?_eq_getElem hp, he]⟩

/-- What stands there when the first i places have been put in. -/
def partL (l : List Int) (i : Nat) : List Int := l.map fun x => if x < (i : Int) then x else 0

theorem partL_set {l : List Int} (hn : l.Nodup) {p i : Nat} (hp : l[p]? = some (i : Int)) : (partL l i).set p (i : Int) = partL l (i + 1) := by
  refine List.ext_getElem? fun q => ?_
  rw [List.getElem?_set]
  obtain ⟨hlt, he⟩ := List.getElem?_eq_some_iff.1 hp
  by_cases hq : p = q
  · subst hq
    simp only [partL, List.length_map, hlt, if_true, List.getElem?_map, hp, Option.map_some]
    rw [if_pos (by omega)]
  · rw [if_neg hq]
    simp only [partL, List.getElem?_map]
    cases hx : l[q]? with
    | none => rfl
    | some x =>
      have hne : x ≠ (i : Int) := by
        rintro rfl
        obtain ⟨hlq, heq⟩ := List.getElem?_eq_some_iff.1 hx
        rcases Nat.lt_trichotomy p q with h | h | h
        · exact List.pairwise_iff_getElem.1 hn p q hlt hlq h (he.trans heq.symm)
        · exact hq h
        · exact List.pairwise_iff_getElem.1 hn q p hlq hlt h (heq.trans he.symm)
      simp only [Option.map_some, Option.some.injEq]
      by_cases h : x < (i : Int)
      · rw [if_pos h, if_pos (by omega)]
      · rw [if_neg h, if_neg (by omega)]

theorem partL_end (f : Nat) (keys : List Vl) : partL (sortV f keys) keys.length = sortV f keys := by
  have hin := sortV_in f keys
  generalize sortV f keys = l at *
  rw [partL]
  conv => rhs; rw [← List.map_id l]
  refine List.map_congr_left fun x hx => ?_
  rw [if_pos (hin x hx).2]; rfl

theorem partL_zero {l : List Int} (h : ∀ x ∈ l, 0 ≤ x) : partL l 0 = List.replicate l.length 0 := by
  rw [partL, List.eq_replicate_iff]
  refine ⟨by simp, fun b hb => ?_⟩
  obtain ⟨x, hx, rfl⟩ := List.mem_map.1 hb
  have := h x hx
  rw [if_neg (by omega)]

end Lp

/-! LpW26 -/

namespace Lp
open Go Go.Proofs

set_option maxHeartbeats 4000000
set_option maxRecDepth 20000
set_option linter.unusedSimpArgs false

theorem ints_spec (a b : List Int) (ha : a.length ≤ 1000000) (hb : b.length ≤ 1000000) : FnSpec Try.prog f_louperef05_Ints [encI a, encI b] [] (.bool (decide (a = b))) [] := by
  refine k_louperef05_Ints.pureG (T := tabL Try.prog []) 0 hD (kOk_tabL tabOk_nil) hmix (by decide) fun Q hQ => ?_
  try simp only [F_all]
  by_cases hl : a.length = b.length
  rotate_left 1
  · have hl' : ((a.length : Int) = (b.length : Int)) = False := eq_false (by omega)
    have hr : decide (a = b) = false := decide_eq_false fun h => hl (by rw [h])
    simp (maxSteps := 400000) only [↓preZ, postZ, coreZ, ↓preU, postU, D_all, F_all, unR, outL, onePV, binS, ↓binS, boundR, ↓boundR, fieldOf, ↓fieldOf, boxR, allocR, newObj, zeroElem, buildSliceR, appendR, setAll, storeR, St.freeze, makeSliceR, minmaxR, makeFuncR, BEq.rfl, reduceIte, reduceCtorEq, Nat.reduceLT, Nat.reduceAdd, Nat.reduceSub, Nat.reduceMul, Nat.reduceBEq, Nat.reduceLeDiff, Int.reduceToNat, Int.reduceLE, hQ, c_louperef05_Ints, hl', hr]
  have hl' : ((a.length : Int) = (b.length : Int)) = True := eq_true (by omega)
  simp (maxSteps := 400000) only [↓preZ, postZ, coreZ, ↓preU, postU, D_all, F_all, unR, outL, onePV, binS, ↓binS, boundR, ↓boundR, fieldOf, ↓fieldOf, boxR, allocR, newObj, zeroElem, buildSliceR, appendR, setAll, storeR, St.freeze, makeSliceR, minmaxR, makeFuncR, BEq.rfl, reduceIte, reduceCtorEq, Nat.reduceLT, Nat.reduceAdd, Nat.reduceSub, Nat.reduceMul, Nat.reduceBEq, Nat.reduceLeDiff, Int.reduceToNat, Int.reduceLE, hQ, c_louperef05_Ints, hl']
  refine wpc_loop (fun m S => ∃ i : Nat, i + m = a.length ∧ (∀ j, j < i → a[j]? = b[j]?) ∧ S = ⟨tmA 26 [(0, encI a), (1, encI b), (5, .int .i64 i)], []⟩) a.length ⟨0, by omega, fun j h => absurd h (by omega), ?_⟩ ?_
  · simp only [normR, keepR, Nat.reduceAdd, lkR, Nat.reduceBEq, F_all, List.map_nil]
    rfl
  rintro m S ⟨i, him, hj, rfl⟩
  have zi : (0 ≤ (i : Int)) = True := eq_true (by omega)
  rcases Nat.lt_or_ge i a.length with h | h
  rotate_left 1
  · have hlt : ((i : Int) < (a.length : Int)) = False := eq_false (by omega)
    have hab : a = b := List.ext_getElem? fun j => by
      by_cases hji : j < i
      · exact hj j hji
      · rw [List.getElem?_eq_none (by omega), List.getElem?_eq_none (by omega)]
    have hr : decide (a = b) = true := decide_eq_true hab
    simp (maxSteps := 400000) only [↓preZ, postZ, coreZ, ↓preU, postU, D_all, F_all, unR, outL, onePV, binS, ↓binS, boundR, ↓boundR, fieldOf, ↓fieldOf, boxR, allocR, newObj, zeroElem, buildSliceR, appendR, setAll, storeR, St.freeze, makeSliceR, minmaxR, makeFuncR, BEq.rfl, reduceIte, reduceCtorEq, Nat.reduceLT, Nat.reduceAdd, Nat.reduceSub, Nat.reduceMul, Nat.reduceBEq, Nat.reduceLeDiff, Int.reduceToNat, Int.reduceLE, hQ, hlt, hr]
  have hlt : ((i : Int) < (a.length : Int)) = True := eq_true (by omega)
  have ga := List.getElem?_eq_getElem h
  have gb : b[i]? = some (b[i]'(by omega)) := List.getElem?_eq_getElem (by omega)
  generalize a[i] = x at ga
  generalize b[i]'(by omega) = y at gb
  by_cases hxy : x = y
  · have hxy' : (x = y) = True := eq_true hxy
    simp (maxSteps := 400000) only [↓preZ, postZ, coreZ, ↓preU, postU, D_all, F_all, unR, outL, onePV, binS, ↓binS, boundR, ↓boundR, fieldOf, ↓fieldOf, boxR, allocR, newObj, zeroElem, buildSliceR, appendR, setAll, storeR, St.freeze, makeSliceR, minmaxR, makeFuncR, BEq.rfl, reduceIte, reduceCtorEq, Nat.reduceLT, Nat.reduceAdd, Nat.reduceSub, Nat.reduceMul, Nat.reduceBEq, Nat.reduceLeDiff, Int.reduceToNat, Int.reduceLE, hQ, hlt, zi, ga, gb, hxy']
    refine ⟨⟨by omega, by omega⟩, m - 1, by omega, i + 1, by omega, ?_, by simp⟩
    intro j hji
    by_cases hjj : j = i
    · subst hjj; rw [ga, gb, hxy]
    · exact hj j (by omega)
  · have hxy' : (x = y) = False := eq_false hxy
    have hr : decide (a = b) = false := decide_eq_false fun h => hxy (by rw [h, gb] at ga; exact (Option.some.inj ga).symm)
    simp (maxSteps := 400000) only [↓preZ, postZ, coreZ, ↓preU, postU, D_all, F_all, unR, outL, onePV, binS, ↓binS, boundR, ↓boundR, fieldOf, ↓fieldOf, boxR, allocR, newObj, zeroElem, buildSliceR, appendR, setAll, storeR, St.freeze, makeSliceR, minmaxR, makeFuncR, BEq.rfl, reduceIte, reduceCtorEq, Nat.reduceLT, Nat.reduceAdd, Nat.reduceSub, Nat.reduceMul, Nat.reduceBEq, Nat.reduceLeDiff, Int.reduceToNat, Int.reduceLE, hQ, hlt, zi, ga, gb, hxy', hr]

def ctrInts : Ctr := fun args objs K => match args with
  | [a0, a1] => ofE encI a0 (HK.mk : HK fun a => ofE encI a1 (HK.mk : HK fun b => (a.length ≤ 1000000) ∧ (b.length ≤ 1000000) ∧ K (.bool (decide (a = b))) objs 0))
  | _ => False
theorem ctrInts_ok : CtrOk Try.prog f_louperef05_Ints (ctrInts) := by
  intro args objs K h
  unfold ctrInts at h
  split at h
  · rename_i a0 a1
    obtain ⟨a, rfl, b, rfl, h1, h2, hk⟩ := h
    exact ⟨_, _, _, .pure _ rfl (ints_spec a b h1 h2), hk⟩
  · exact h.elim

def ctrOrdRises (f : Nat) : Ctr := fun args objs K => match args with
  | [a0] => ofE encL a0 (HK.mk : HK fun keys => (OkL f keys) ∧ (f ≤ 1099511627776) ∧ K (.bool (risesV f keys)) objs 0)
  | _ => False
theorem ctrOrdRises_ok (f : Nat) : CtrOk Try.prog f_order_Rises (ctrOrdRises f) := by
  intro args objs K h
  unfold ctrOrdRises at h
  split at h
  · rename_i a0
    obtain ⟨keys, rfl, h1, h2, hk⟩ := h
    exact ⟨_, _, _, .pure _ rfl (rises_spec f keys h1 h2), hk⟩
  · exact h.elim

def n1 : Nd := ⟨3, 0, [], [49], false, 0⟩
def n2 : Nd := ⟨3, 0, [], [50], false, 0⟩

theorem alive_few : fewB [n1] 3 = true ∧ fewB [n2] 3 = true := by constructor <;> decide

theorem alive_ok : Ok [n1] ∧ Ok [n2] ∧ OkL 3 [[n2], [n1], [n2]] ∧ OkL 3 [[n1], [n1]] ∧ OkL 3 [[n2], [n1]] := by
  have h1 := (fewB_ok (by decide) alive_few.1).ok
  have h2 := (fewB_ok (by decide) alive_few.2).ok
  refine ⟨h1, h2, ⟨by decide, ?_⟩, ⟨by decide, ?_⟩, ⟨by decide, ?_⟩⟩ <;>
    (intro v hv; simp only [List.mem_cons, List.not_mem_nil, or_false] at hv; rcases hv with rfl | rfl | rfl <;> exact ⟨by decide, by assumption⟩)

theorem alive_cmp : cmpV 3 [n1] [n2] = -1 ∧ cmpV 3 [n2] [n1] = 1 ∧ cmpV 3 [n2] [n2] = 0 ∧ cmpV 3 [n1] [n1] = 0 := by
  refine ⟨?_, ?_, ?_, ?_⟩ <;> decide

theorem alive_sort : sortV 3 [[n2], [n1], [n2]] = [1, 0, 2] := by
  have h : ∀ x y, ltK 3 [[n2], [n1], [n2]] x y = match [[n2], [n1], [n2]][x.toNat]?, [[n2], [n1], [n2]][y.toNat]? with
    | some a, some b => decide (cmpV 3 a b < 0)
    | _, _ => false := fun _ _ => rfl
  have c := alive_cmp
  have h1 : ltK 3 [[n2], [n1], [n2]] 2 1 = false := by decide
  have h2 : ltK 3 [[n2], [n1], [n2]] 1 0 = true := by decide
  have h3 : ltK 3 [[n2], [n1], [n2]] 2 0 = false := by decide
  simp [sortV, sortF, places, List.range_succ, List.merge, h1, h2, h3]

theorem alive_groups : groupsV 3 [[n2], [n1], [n2]] = [[1], [0, 2]] := by
  have h1 : sameK numN 3 [[n2], [n1], [n2]] 0 1 = false := by decide
  have h2 : sameK numN 3 [[n2], [n1], [n2]] 2 0 = true := by decide
  simp [groupsV, alive_sort, groupsF, grpF, h1, h2]

theorem alive_rises : risesV 3 [[n1], [n1]] = true ∧ risesV 3 [[n2], [n1]] = false := by
  constructor <;> decide

theorem alive_spec : FnSpec Try.prog f_loupelaw05_alive [] [] (.bool true) [] := by
  obtain ⟨o1, o2, l1, l2, l3⟩ := alive_ok
  obtain ⟨c1, c2, c3, c4⟩ := alive_cmp
  obtain ⟨r1, r2⟩ := alive_rises
  have s1 := alive_sort
  have g1 := alive_groups
  have p1 : PV.sl 6 [encN ⟨3, 0, [], [49], false, 0⟩] none = encV [n1] := rfl
  have p2 : encV [⟨3, 0, [], [49], false, 0⟩] = encV [n1] := rfl
  have p3 : encV [⟨3, 0, [], [50], false, 0⟩] = encV [n2] := rfl
  refine k_loupelaw05_alive.pureG (T := tabL Try.prog [(f_order_Sort, (ctrSort 3)), (f_order_Groups, (ctrGroups 3)), (f_order_Cmp, (ctrOrdCmp 3)), (f_louperef05_Ints, ctrInts), (f_order_Rises, (ctrOrdRises 3))]) 0 hD (kOk_tabL (tabOk_cons (ctrSort_ok 3) (tabOk_cons (ctrGroups_ok 3) (tabOk_cons (ctrOrdCmp_ok 3) (tabOk_cons ctrInts_ok (tabOk_cons (ctrOrdRises_ok 3) tabOk_nil)))))) hmix (by decide) fun Q hQ => ?_
  try simp only [F_all]
  simp (maxSteps := 400000) only [↓preZ, postZ, coreZ, ↓preU, postU, D_all, F_all, unR, outL, onePV, binS, ↓binS, boundR, ↓boundR, fieldOf, ↓fieldOf, boxR, allocR, newObj, zeroElem, buildSliceR, appendR, setAll, storeR, St.freeze, makeSliceR, minmaxR, makeFuncR, BEq.rfl, reduceIte, reduceCtorEq, Nat.reduceLT, Nat.reduceAdd, Nat.reduceSub, Nat.reduceMul, Nat.reduceBEq, Nat.reduceLeDiff, Int.reduceToNat, Int.reduceLE, hQ, c_loupelaw05_alive, p2, p3, ↓ctrSort, ↓ctrGroups, ↓ctrOrdCmp, ↓ctrInts, ↓ctrOrdRises, s1, g1, r1, r2, c1, c2, c3, c4]
  exact ⟨by decide, by decide, by decide, by decide, l1, l1, o1, o2, fun _ => ⟨fun _ => ⟨l2, l3⟩, fun h => absurd rfl h⟩, fun h => absurd rfl h⟩

def ctrAlive : Ctr := fun args objs K => match args with
  | [] => K (.bool true) objs 0
  | _ => False

theorem ctrAlive_ok : CtrOk Try.prog f_loupelaw05_alive ctrAlive := by
  intro args objs K h
  unfold ctrAlive at h
  split at h
  · exact ⟨_, _, _, .pure _ rfl alive_spec, h⟩
  · exact h.elim
end Lp

/-! LpW27 -/

namespace Lp
open Go Go.Proofs

set_option maxHeartbeats 4000000
set_option maxRecDepth 20000
set_option linter.unusedSimpArgs false

def pickV (keys : List Vl) (at' : List Int) : List Vl := at'.map (keyAt keys)

theorem pick_spec (keys : List Vl) (l : List Int) (hin : ∀ x ∈ l, InL keys x) (hl : l.length ≤ 1000000) : FnSpec Try.prog f_louperef05_Pick [encL keys, encI l] [] (encL (pickV keys l)) [] := by
  refine k_louperef05_Pick.pureG (T := tabL Try.prog []) 1 hD (kOk_tabL tabOk_nil) hmix (by decide) fun Q hQ => ?_
  try simp only [F_all]
  simp (maxSteps := 400000) only [↓preZ, postZ, coreZ, ↓preU, postU, D_all, F_all, unR, outL, onePV, binS, ↓binS, boundR, ↓boundR, fieldOf, ↓fieldOf, boxR, allocR, newObj, zeroElem, buildSliceR, appendR, setAll, storeR, St.freeze, makeSliceR, minmaxR, makeFuncR, BEq.rfl, reduceIte, reduceCtorEq, Nat.reduceLT, Nat.reduceAdd, Nat.reduceSub, Nat.reduceMul, Nat.reduceBEq, Nat.reduceLeDiff, Int.reduceToNat, Int.reduceLE, hQ, c_louperef05_Pick]
  refine wpc_loop (fun m S => ∃ i ver : Nat, i + m = l.length ∧ S = ⟨tmA 25 [(0, encL keys), (1, encI l), (5, .osl 0 ver), (6, .int .i64 i)], [⟨t_api_Val, 1, (pickV keys (l.take i)).map encV, true, ver⟩]⟩) l.length ⟨0, 1, by omega, ?_⟩ ?_
  · simp only [normR, keepR, Nat.reduceAdd, lkR, Nat.reduceBEq, F_all, List.map_nil]
    rfl
  rintro m S ⟨i, ver, him, rfl⟩
  rcases Nat.lt_or_ge i l.length with h | h
  rotate_left 1
  · have hlt : ((i : Int) < (l.length : Int)) = False := eq_false (by omega)
    simp (maxSteps := 400000) only [↓preZ, postZ, coreZ, ↓preU, postU, D_all, F_all, unR, outL, onePV, binS, ↓binS, boundR, ↓boundR, fieldOf, ↓fieldOf, boxR, allocR, newObj, zeroElem, buildSliceR, appendR, setAll, storeR, St.freeze, makeSliceR, minmaxR, makeFuncR, BEq.rfl, reduceIte, reduceCtorEq, Nat.reduceLT, Nat.reduceAdd, Nat.reduceSub, Nat.reduceMul, Nat.reduceBEq, Nat.reduceLeDiff, Int.reduceToNat, Int.reduceLE, hQ, hlt]
    rw [List.take_of_length_le h]
  have hlt : ((i : Int) < (l.length : Int)) = True := eq_true (by omega)
  have hgi := List.getElem?_eq_getElem h
  have hini := hin _ (List.getElem_mem h)
  have htk : l.take (i + 1) = l.take i ++ [l[i]] := by rw [List.take_add_one, hgi]; rfl
  generalize l[i] = x at hgi hini htk
  have hka := keyAt_some hini
  have zi : (0 ≤ (i : Int)) = True := eq_true (by omega)
  have zx : (0 ≤ x) = True := eq_true hini.1
  have hll : (pickV keys (l.take i)).length = i := by simp [pickV]; omega
  simp (maxSteps := 400000) only [↓preZ, postZ, coreZ, ↓preU, postU, D_all, F_all, unR, outL, onePV, binS, ↓binS, boundR, ↓boundR, fieldOf, ↓fieldOf, boxR, allocR, newObj, zeroElem, buildSliceR, appendR, setAll, storeR, St.freeze, makeSliceR, minmaxR, makeFuncR, BEq.rfl, reduceIte, reduceCtorEq, Nat.reduceLT, Nat.reduceAdd, Nat.reduceSub, Nat.reduceMul, Nat.reduceBEq, Nat.reduceLeDiff, Int.reduceToNat, Int.reduceLE, hQ, hlt, zi, hgi, hka, zx, hll]
  refine ⟨by omega, by omega, ⟨by omega, by omega⟩, m - 1, by omega, i + 1, ver + 1, by omega, ?_⟩
  rw [htk]
  simp [pickV]

def ctrPick : Ctr := fun args objs K => match args with
  | [a0, a1] => ofE encL a0 (HK.mk : HK fun keys => ofE encI a1 (HK.mk : HK fun l => (∀ x ∈ l, InL keys x) ∧ (l.length ≤ 1000000) ∧ K (encL (pickV keys l)) objs 0))
  | _ => False
theorem ctrPick_ok : CtrOk Try.prog f_louperef05_Pick (ctrPick) := by
  intro args objs K h
  unfold ctrPick at h
  split at h
  · rename_i a0 a1
    obtain ⟨keys, rfl, l, rfl, h1, h2, hk⟩ := h
    exact ⟨_, _, _, .pure _ rfl (pick_spec keys l h1 h2), hk⟩
  · exact h.elim

theorem all_spec' (l : List Vl) (k : Int) (hk : 0 ≤ k ∧ k ≤ 1000000) (hs : l.length ≤ 1152921504606846976) (htx : ∀ v ∈ l, v.length ≤ 1152921504606846976 ∧ ∀ n ∈ v, n.s.length ≤ 4611686018427387904 ∧ n.name.length ≤ 4611686018427387904) : FnSpec Try.prog f_louperef02_All [encL l, .int .i64 k] [] (.bool (allB l k.toNat)) [] := by
  have e : k = (k.toNat : Int) := by omega
  rw [e]
  exact all_spec l k.toNat (by omega) hs htx

def ctrAll : Ctr := fun args objs K => match args with
  | [a0, .int .i64 k] => ofE encL a0 (HK.mk : HK fun l => (0 ≤ k ∧ k ≤ 1000000) ∧ (l.length ≤ 1152921504606846976) ∧ (∀ v ∈ l, v.length ≤ 1152921504606846976 ∧ ∀ n ∈ v, n.s.length ≤ 4611686018427387904 ∧ n.name.length ≤ 4611686018427387904) ∧ K (.bool (allB l k.toNat)) objs 0)
  | _ => False
theorem ctrAll_ok : CtrOk Try.prog f_louperef02_All (ctrAll) := by
  intro args objs K h
  unfold ctrAll at h
  split at h
  · rename_i a0 k
    obtain ⟨l, rfl, h1, h2, h3, hk⟩ := h
    exact ⟨_, _, _, .pure _ rfl (all_spec' l k h1 h2 h3), hk⟩
  · exact h.elim
end Lp

/-! LpN1 -/

namespace Lp
open Go

def padC : List UInt8 → List UInt8 → Int
  | [], [] => 0
  | [], y :: ys => if 48 < y.toNat then -1 else padC [] ys
  | x :: xs, [] => if 48 < x.toNat then 1 else padC xs []
  | x :: xs, y :: ys => if x.toNat < y.toNat then -1 else if y.toNat < x.toNat then 1 else padC xs ys

theorem figs_mem {s : List UInt8} (h : figs s = true) : ∀ c ∈ s, 48 ≤ c.toNat ∧ c.toNat ≤ 57 := by
  intro c hc
  obtain ⟨i, hi, rfl⟩ := List.getElem_of_mem hc
  exact figs_get h (List.getElem?_eq_getElem hi)

/-- The figure at a power counted from the top. -/
theorem atN_top (n : Nd) (i : Nat) : atN n ((n.s.length : Int) + n.e - 1 - i) = match n.s[i]? with | some c => (c.toNat : Int) - 48 | none => 0 := by
  have e : (n.s.length : Int) - 1 - ((n.s.length : Int) + n.e - 1 - i - n.e) = i := by omega
  simp only [atN, e]
  rw [if_neg (by omega), Int.toNat_natCast]
  rfl

theorem digs_pad (a b : Nd) (ha : figs a.s = true) (hb : figs b.s = true) (ht : (a.s.length : Int) + a.e = b.s.length + b.e) : ∀ (k i : Nat), a.s.length ≤ i + k → b.s.length ≤ i + k → digs a b k ((a.s.length : Int) + a.e - 1 - i) = padC (a.s.drop i) (b.s.drop i)
  | 0, i, h1, h2 => by
    rw [List.drop_eq_nil_of_le (by omega), List.drop_eq_nil_of_le (by omega)]
    simp only [digs, padC]
  | k + 1, i, h1, h2 => by
    have ih := digs_pad a b ha hb ht k (i + 1) (by omega) (by omega)
    have e : (a.s.length : Int) + a.e - 1 - ((i + 1 : Nat) : Int) = (a.s.length : Int) + a.e - 1 - i - 1 := by omega
    rw [e] at ih
    have fa := atN_top a i
    have fb := atN_top b i
    rw [← ht] at fb
    simp only [digs, ih]
    rcases Nat.lt_or_ge i a.s.length with la | la <;> rcases Nat.lt_or_ge i b.s.length with lb | lb
    · rw [List.getElem?_eq_getElem la] at fa
      rw [List.getElem?_eq_getElem lb] at fb
      simp only at fa fb
      rw [List.drop_eq_getElem_cons la, List.drop_eq_getElem_cons lb, padC, fa, fb]
      by_cases c1 : a.s[i].toNat < b.s[i].toNat
      · rw [if_pos (by omega), if_pos c1]
      · rw [if_neg (by omega), if_neg c1]
        by_cases c2 : b.s[i].toNat < a.s[i].toNat
        · rw [if_pos (by omega), if_pos c2]
        · rw [if_neg (by omega), if_neg c2]
    · rw [List.getElem?_eq_getElem la] at fa
      rw [List.getElem?_eq_none lb] at fb
      simp only at fa fb
      have := figs_get ha (List.getElem?_eq_getElem la)
      rw [List.drop_eq_getElem_cons la, List.drop_eq_nil_of_le lb, List.drop_eq_nil_of_le (by omega : b.s.length ≤ i + 1), padC, fa, fb]
      by_cases c1 : 48 < a.s[i].toNat
      · rw [if_neg (by omega), if_pos (by omega), if_pos c1]
      · rw [if_neg (by omega), if_neg (by omega), if_neg c1]
    · rw [List.getElem?_eq_none la] at fa
      rw [List.getElem?_eq_getElem lb] at fb
      simp only at fa fb
      have := figs_get hb (List.getElem?_eq_getElem lb)
      rw [List.drop_eq_getElem_cons lb, List.drop_eq_nil_of_le la, List.drop_eq_nil_of_le (by omega : a.s.length ≤ i + 1), padC, fa, fb]
      by_cases c1 : 48 < b.s[i].toNat
      · rw [if_pos (by omega), if_pos c1]
      · rw [if_neg (by omega), if_neg (by omega), if_neg c1]
    · rw [List.getElem?_eq_none la] at fa
      rw [List.getElem?_eq_none lb] at fb
      simp only at fa fb
      rw [List.drop_eq_nil_of_le la, List.drop_eq_nil_of_le lb, List.drop_eq_nil_of_le (by omega : a.s.length ≤ i + 1), List.drop_eq_nil_of_le (by omega : b.s.length ≤ i + 1), fa, fb]
      simp

theorem padC_nil : ∀ ys : List UInt8, (∀ c ∈ ys, 48 ≤ c.toNat) → ys ≠ [] → ys.getLast? ≠ some 48 → padC [] ys = -1
  | [], _, h, _ => absurd rfl h
  | [y], hf, _, hl => by
    have h1 := hf y (List.mem_cons_self ..)
    have h2 : y.toNat ≠ 48 := fun h => hl (by rw [List.getLast?_singleton]; congr 1; exact UInt8.toNat_inj.1 (by simpa using h))
    rw [padC, if_pos (by omega)]
  | y :: z :: ys, hf, _, hl => by
    rw [padC]
    split
    · rfl
    · exact padC_nil (z :: ys) (fun c hc => hf c (List.mem_cons_of_mem _ hc)) (by simp) (by rwa [List.getLast?_cons_cons] at hl)

theorem padC_anti : ∀ xs ys : List UInt8, padC ys xs = - padC xs ys
  | [], [] => by simp [padC]
  | [], y :: ys => by
    simp only [padC]; split
    · rfl
    · exact padC_anti [] ys
  | x :: xs, [] => by
    simp only [padC]; split
    · rfl
    · exact padC_anti xs []
  | x :: xs, y :: ys => by
    simp only [padC]
    have := padC_anti xs ys
    repeat' split
    all_goals omega

theorem padC_cmp : ∀ xs ys : List UInt8, (∀ c ∈ xs, 48 ≤ c.toNat) → (∀ c ∈ ys, 48 ≤ c.toNat) → xs.getLast? ≠ some 48 → ys.getLast? ≠ some 48 → padC xs ys = cmpS xs ys
  | [], [], _, _, _, _ => by simp [padC, cmpS, Op.bytesLess]
  | [], y :: ys, _, hb, _, lb => by rw [padC_nil (y :: ys) hb (by simp) lb]; rfl
  | x :: xs, [], ha, _, la, _ => by rw [padC_anti, padC_nil (x :: xs) ha (by simp) la]; rfl
  | x :: xs, y :: ys, ha, hb, la, lb => by
    have hla : xs.getLast? ≠ some 48 := by
      cases xs with
      | nil => simp
      | cons z zs => rwa [List.getLast?_cons_cons] at la
    have hlb : ys.getLast? ≠ some 48 := by
      cases ys with
      | nil => simp
      | cons z zs => rwa [List.getLast?_cons_cons] at lb
    have ih := padC_cmp xs ys (fun c hc => ha c (List.mem_cons_of_mem _ hc)) (fun c hc => hb c (List.mem_cons_of_mem _ hc)) hla hlb
    rw [padC]
    by_cases h1 : x.toNat < y.toNat
    · have : x < y := UInt8.lt_iff_toNat_lt.2 h1
      rw [if_pos h1]
      simp [cmpS, Op.bytesLess, this]
    · rw [if_neg h1]
      have hn : ¬ x < y := fun h => h1 (UInt8.lt_iff_toNat_lt.1 h)
      by_cases h2 : y.toNat < x.toNat
      · have hxy : x ≠ y := fun h => by rw [h] at h2; omega
        rw [if_pos h2]
        simp [cmpS, Op.bytesLess, hn, hxy]
      · have hxy : x = y := UInt8.toNat_inj.1 (by omega)
        subst hxy
        rw [if_neg h2, ih]
        simp [cmpS, Op.bytesLess]

theorem atN_above (n : Nd) (p : Int) (h : (n.s.length : Int) + n.e ≤ p) : atN n p = 0 := by
  simp only [atN]
  rw [if_pos (by omega)]

theorem atN_first (n : Nd) (hf : figs n.s = true) (hs : n.s ≠ []) (hh : n.s.head? ≠ some 48) : 0 < atN n ((n.s.length : Int) + n.e - 1) := by
  have h := atN_top n 0
  cases hns : n.s with
  | nil => exact absurd hns hs
  | cons c t =>
    have h0 : n.s[0]? = some c := by rw [hns]; rfl
    rw [h0] at h
    simp only [Int.natCast_zero, Int.sub_zero] at h
    have hc := figs_get hf h0
    have hne : c.toNat ≠ 48 := fun he => hh (by rw [hns, List.head?_cons]; congr 1; exact UInt8.toNat_inj.1 (by simpa using he))
    rw [← hns, h]
    omega

/-- From the top down: the same up to a power, then less. -/
theorem digs_lt (a b : Nd) (k : Nat) (p : Int) (hk : 2 ≤ k) (h0 : atN a p = atN b p) (h1 : atN a (p - 1) < atN b (p - 1)) : digs a b k p = -1 := by
  obtain ⟨k, rfl⟩ : ∃ q, k = q + 2 := ⟨k - 2, by omega⟩
  rw [digs, if_neg (by omega), if_neg (by omega), digs, if_pos h1]

theorem digs_gt (a b : Nd) (k : Nat) (p : Int) (hk : 2 ≤ k) (h0 : atN a p = atN b p) (h1 : atN b (p - 1) < atN a (p - 1)) : digs a b k p = 1 := by
  obtain ⟨k, rfl⟩ : ∃ q, k = q + 2 := ⟨k - 2, by omega⟩
  rw [digs, if_neg (by omega), if_neg (by omega), digs, if_neg (by omega), if_pos h1]

theorem digs_zero (a b : Nd) (h : ∀ p, atN a p = atN b p) : ∀ (k : Nat) (p : Int), digs a b k p = 0
  | 0, _ => rfl
  | k + 1, p => by
    have := h p
    rw [digs, if_neg (by omega), if_neg (by omega)]
    exact digs_zero a b h k (p - 1)

end Lp

/-! LpN2 -/

namespace Lp
open Go

theorem digs_skip (a b : Nd) (t : Int) (h : ∀ q, t ≤ q → atN a q = atN b q) (k : Nat) : ∀ d : Nat, digs a b (k + d) (t + d) = digs a b k t
  | 0 => by simp
  | d + 1 => by
    have := h (t + ((d + 1 : Nat) : Int)) (by omega)
    rw [show k + (d + 1) = (k + d) + 1 by omega, digs, if_neg (by omega), if_neg (by omega), show t + ((d + 1 : Nat) : Int) - 1 = t + d by omega]
    exact digs_skip a b t h k d

theorem digs_size (a b : Nd) (ha : numB a = true) (hb : numB b = true) : digs a b (topN a b - lowN a b + 1).toNat (topN a b) = sizeN a b := by
  have A := (numB_iff a).1 ha
  have B := (numB_iff b).1 hb
  have hl : ∀ x : Nd, x.s ≠ [] → 0 < x.s.length := fun x h => List.length_pos_iff.2 h
  have zero : ∀ n : Nd, n.s = [] → ∀ p, atN n p = 0 := by
    intro n hn p
    simp only [atN, hn]
    split
    · rfl
    · simp
  by_cases sa : a.s = []
  · have ea : a.e = 0 := by have := A.2.2.2.2.2.2; rw [if_pos sa] at this; exact this.2
    by_cases sb : b.s = []
    · rw [digs_zero a b (fun p => by rw [zero a sa, zero b sb]), sizeN, if_pos (.inl sa), sa, sb]; rfl
    · have hb2 := B.2.2.2.2.2.2
      rw [if_neg sb] at hb2
      have hlb := hl b sb
      have first := atN_first b B.2.1 sb hb2.1
      rw [sizeN, if_pos (.inl sa), sa, cmpI, if_pos (by simp; omega)]
      have low : lowN a b ≤ b.e := by unfold lowN; split <;> omega
      have htop : (b.s.length : Int) + b.e ≤ topN a b := by unfold topN; split <;> omega
      have hsk := digs_skip a b ((b.s.length : Int) + b.e) (fun q hq => by rw [zero a sa, atN_above b q hq]) ((b.s.length : Int) + b.e - lowN a b + 1).toNat (topN a b - (b.s.length + b.e)).toNat
      rw [show ((b.s.length : Int) + b.e - lowN a b + 1).toNat + (topN a b - (b.s.length + b.e)).toNat = (topN a b - lowN a b + 1).toNat by omega, show ((b.s.length : Int) + b.e) + ((topN a b - (b.s.length + b.e)).toNat : Int) = topN a b by omega] at hsk
      rw [hsk]
      refine digs_lt a b _ _ (by omega) ?_ ?_
      · rw [zero a sa, atN_above b _ (Int.le_refl _)]
      · rw [zero a sa]; exact first
  by_cases sb : b.s = []
  · have eb : b.e = 0 := by have := B.2.2.2.2.2.2; rw [if_pos sb] at this; exact this.2
    have ha2 := A.2.2.2.2.2.2
    rw [if_neg sa] at ha2
    have hla := hl a sa
    have first := atN_first a A.2.1 sa ha2.1
    rw [sizeN, if_pos (.inr sb), sb, cmpI, if_neg (by simp), if_pos (by simp; omega)]
    have low : lowN a b ≤ a.e := by unfold lowN; split <;> omega
    have htop : (a.s.length : Int) + a.e ≤ topN a b := by unfold topN; split <;> omega
    have hsk := digs_skip a b ((a.s.length : Int) + a.e) (fun q hq => by rw [zero b sb, atN_above a q hq]) ((a.s.length : Int) + a.e - lowN a b + 1).toNat (topN a b - (a.s.length + a.e)).toNat
    rw [show ((a.s.length : Int) + a.e - lowN a b + 1).toNat + (topN a b - (a.s.length + a.e)).toNat = (topN a b - lowN a b + 1).toNat by omega, show ((a.s.length : Int) + a.e) + ((topN a b - (a.s.length + a.e)).toNat : Int) = topN a b by omega] at hsk
    rw [hsk]
    refine digs_gt a b _ _ (by omega) ?_ ?_
    · rw [zero b sb, atN_above a _ (Int.le_refl _)]
    · rw [zero b sb]; exact first
  · have ha2 := A.2.2.2.2.2.2
    have hb2 := B.2.2.2.2.2.2
    rw [if_neg sa] at ha2
    rw [if_neg sb] at hb2
    have hla := hl a sa
    have hlb := hl b sb
    have fa := atN_first a A.2.1 sa ha2.1
    have fb := atN_first b B.2.1 sb hb2.1
    rw [sizeN, if_neg (by simp [sa, sb])]
    have low : lowN a b ≤ a.e ∧ lowN a b ≤ b.e := by unfold lowN; split <;> omega
    by_cases ht : (a.s.length : Int) + a.e = b.s.length + b.e
    · rw [if_pos ((cmpI_ordr.zero _ _ trivial trivial).2 ht)]
      have htop : topN a b = a.s.length + a.e := by unfold topN; split <;> omega
      rw [htop]
      obtain ⟨k, hk⟩ : ∃ k, ((a.s.length : Int) + a.e - lowN a b + 1).toNat = k + 1 := ⟨((a.s.length : Int) + a.e - lowN a b).toNat, by omega⟩
      rw [hk, digs, atN_above a _ (Int.le_refl _), atN_above b _ (by omega), if_neg (by omega), if_neg (by omega)]
      have := digs_pad a b A.2.1 B.2.1 ht k 0 (by omega) (by omega)
      simp only [Int.natCast_zero, Int.sub_zero, List.drop_zero] at this
      rw [this]
      exact padC_cmp _ _ (fun c hc => (figs_mem A.2.1 c hc).1) (fun c hc => (figs_mem B.2.1 c hc).1) ha2.2 hb2.2
    · rw [if_neg (fun h => ht ((cmpI_ordr.zero _ _ trivial trivial).1 h))]
      rcases Int.lt_or_gt_of_ne ht with hlt | hgt
      · have htop : topN a b = b.s.length + b.e := by unfold topN; split <;> omega
        rw [htop, cmpI, if_pos hlt]
        refine digs_lt a b _ _ (by omega) ?_ ?_
        · rw [atN_above a _ (by omega), atN_above b _ (Int.le_refl _)]
        · rw [atN_above a _ (by omega)]; exact fb
      · have htop : topN a b = a.s.length + a.e := by unfold topN; split <;> omega
        rw [htop, cmpI, if_neg (by omega), if_pos hgt]
        refine digs_gt a b _ _ (by omega) ?_ ?_
        · rw [atN_above b _ (by omega), atN_above a _ (Int.le_refl _)]
        · rw [atN_above b _ (by omega)]; exact fa

/-- Numbers: the document's answer is the program's. -/
theorem refN_eq (a b : Nd) (ha : numB a = true) (hb : numB b = true) : refN a b = numN a b := by
  have h := digs_size a b ha hb
  have h2 := sizeN_anti a b
  simp only [refN, h]
  cases hx : a.neg <;> cases hy : b.neg <;> simp [numN, hx, hy, h2]

end Lp

/-! LpN3 -/

namespace Lp
open Go

theorem cmpW_ref : ∀ (f : Nat) (a b : Vl), Rt a → Rt b → cmpW refN f a b = cmpV f a b
  | 0, a, b, _, _ => by simp [cmpW]
  | f + 1, [], b, ha, _ => absurd rfl ha.one.ne
  | f + 1, n :: r, [], _, hb => absurd rfl hb.one.ne
  | f + 1, n :: r, m :: q, ha, hb => by
    have hp := partsOf_len ha
    have hq := partsOf_len hb
    have pn := ha.parts.1
    have pm := hb.parts.1
    have e : lexBy (cmpW refN f) (partsOf n r) (partsOf m q) = lexBy (cmpV f) (partsOf n r) (partsOf m q) :=
      lexBy_congr _ _ fun x hx y hy => cmpW_ref f x y (hp x hx).2 (hq y hy).2
    by_cases hk : n.kind = m.kind
    · by_cases h3 : n.kind = 3
      · have := refN_eq n m (plainB_num pn h3) (plainB_num pm (hk ▸ h3))
        simp only [cmpV, cmpW, this, e]
      · simp only [cmpV, cmpW, if_neg h3, e]
    · simp only [cmpV, cmpW, ne_eq, hk, not_false_eq_true, if_true]

theorem rises_ref (f : Nat) : ∀ l : List Vl, (∀ v ∈ l, Rt v) → risesC (cmpW refN f) l = risesV f l
  | [], _ => rfl
  | [_], _ => rfl
  | a :: b :: l, h => by
    rw [risesC, risesV, cmpW_ref f b a (h b (by simp)) (h a (by simp)), rises_ref f (b :: l) fun v hv => h v (List.mem_cons_of_mem _ hv)]

end Lp

/-! LpW28 -/

namespace Lp
open Go Go.Proofs

set_option maxHeartbeats 4000000
set_option maxRecDepth 20000
set_option linter.unusedSimpArgs false

theorem refSort_spec (f : Nat) (keys : List Vl) (hk : OkL2 f keys) (hko : KeysOk f keys) (hl : keys.length ≤ 1000000) : FnSpec Try.prog f_louperef05_Sort [encL keys] [] (encI (sortV f keys)) [] := by
  have hlen := sortV_len f keys
  have hin := sortV_in f keys
  have hnd := sortV_nodup f keys
  have hend := partL_end f keys
  have hhas := fun (i : Nat) (hi : i < keys.length) => sortV_has f keys hi
  have hrank := fun (i p : Nat) (hp : (sortV f keys)[p]? = some (i : Int)) => rank_at hko hp
  refine k_louperef05_Sort.pureG (T := tabL Try.prog [(f_louperef05_Cmp, (ctrRef5 f))]) 1 hD (kOk_tabL (tabOk_cons (ctrRef5_ok f) tabOk_nil)) hmix (by decide) fun Q hQ => ?_
  try simp only [F_all]
  simp (maxSteps := 400000) only [↓preZ, postZ, coreZ, ↓preU, postU, D_all, F_all, unR, outL, onePV, binS, ↓binS, boundR, ↓boundR, fieldOf, ↓fieldOf, boxR, allocR, newObj, zeroElem, buildSliceR, appendR, setAll, storeR, St.freeze, makeSliceR, minmaxR, makeFuncR, BEq.rfl, reduceIte, reduceCtorEq, Nat.reduceLT, Nat.reduceAdd, Nat.reduceSub, Nat.reduceMul, Nat.reduceBEq, Nat.reduceLeDiff, Int.reduceToNat, Int.reduceLE, hQ, c_louperef05_Sort]
  generalize sortV f keys = l at *
  refine ⟨by omega, by omega, by omega, by omega, ?_⟩
  refine wpc_loop (fun m S => ∃ i : Nat, i + m = keys.length ∧ S = ⟨tmA 50 [(0, encL keys), (3, .osl 0 1), (4, .int .i64 i)], [⟨t_int, 1, (partL l i).map (.int .i64), true, 1⟩]⟩) keys.length ⟨0, by omega, ?_⟩ ?_
  · simp only [normR, keepR, Nat.reduceAdd, lkR, Nat.reduceBEq, F_all, List.map_nil]
    rw [partL_zero fun x hx => (hin x hx).1, hlen, List.map_replicate]
    rfl
  rintro m S ⟨i, him, rfl⟩
  rcases Nat.lt_or_ge i keys.length with h | h
  rotate_left 1
  · have hlt : ((i : Int) < (keys.length : Int)) = False := eq_false (by omega)
    have hi : i = keys.length := by omega
    rw [hi, hend]
    rw [hi] at hlt
    simp (maxSteps := 400000) only [↓preZ, postZ, coreZ, ↓preU, postU, D_all, F_all, unR, outL, onePV, binS, ↓binS, boundR, ↓boundR, fieldOf, ↓fieldOf, boxR, allocR, newObj, zeroElem, buildSliceR, appendR, setAll, storeR, St.freeze, makeSliceR, minmaxR, makeFuncR, BEq.rfl, reduceIte, reduceCtorEq, Nat.reduceLT, Nat.reduceAdd, Nat.reduceSub, Nat.reduceMul, Nat.reduceBEq, Nat.reduceLeDiff, Int.reduceToNat, Int.reduceLE, hQ, hlt]
  have hlt : ((i : Int) < (keys.length : Int)) = True := eq_true (by omega)
  have zi : (0 ≤ (i : Int)) = True := eq_true (by omega)
  have hii : InL keys (i : Int) := ⟨by omega, by omega⟩
  have ki := keyAt_some hii
  rw [Int.toNat_natCast] at ki
  have oi := hk.2 _ (List.mem_of_getElem? ki)
  obtain ⟨p, hpl, hp⟩ := hhas i h
  have hr := hrank i p hp
  have hset := partL_set hnd hp
  simp (maxSteps := 400000) only [↓preZ, postZ, coreZ, ↓preU, postU, D_all, F_all, unR, outL, onePV, binS, ↓binS, boundR, ↓boundR, fieldOf, ↓fieldOf, boxR, allocR, newObj, zeroElem, buildSliceR, appendR, setAll, storeR, St.freeze, makeSliceR, minmaxR, makeFuncR, BEq.rfl, reduceIte, reduceCtorEq, Nat.reduceLT, Nat.reduceAdd, Nat.reduceSub, Nat.reduceMul, Nat.reduceBEq, Nat.reduceLeDiff, Int.reduceToNat, Int.reduceLE, hQ, hlt]
  refine wpc_loop (fun m' S => ∃ k : Nat, k + m' = keys.length ∧ S = ⟨tmA 50 [(0, encL keys), (3, .osl 0 1), (4, .int .i64 i), (5, .int .i64 (cntB f keys i k)), (6, .int .i64 k)], [⟨t_int, 1, (partL l i).map (.int .i64), true, 1⟩]⟩) keys.length ⟨0, by omega, ?_⟩ ?_
  · simp only [normR, keepR, Nat.reduceAdd, lkR, Nat.reduceBEq, F_all, List.map_nil]
    rfl
  rintro m' S ⟨k, hkm, rfl⟩
  have hcl := cntB_le f keys i k
  rcases Nat.lt_or_ge k keys.length with h2 | h2
  · have hlt2 : ((k : Int) < (keys.length : Int)) = True := eq_true (by omega)
    have zk : (0 ≤ (k : Int)) = True := eq_true (by omega)
    have hkk : InL keys (k : Int) := ⟨by omega, by omega⟩
    have kk := keyAt_some hkk
    rw [Int.toNat_natCast] at kk
    have ok := hk.2 _ (List.mem_of_getElem? kk)
    have hcmp : cmpW refN f (keyAt keys (k : Int)) (keyAt keys (i : Int)) = cmpV f (keyAt keys (k : Int)) (keyAt keys (i : Int)) := cmpW_ref f _ _ (keyAt_ok hko hkk).2 (keyAt_ok hko hii).2
    have hs := cntB_succ f keys i k
    have ha : ahB f keys i k = (decide (cmpV f (keyAt keys (k : Int)) (keyAt keys (i : Int)) < 0) || (decide (cmpV f (keyAt keys (k : Int)) (keyAt keys (i : Int)) = 0) && decide (k < i))) := rfl
    generalize keyAt keys (k : Int) = a at *
    generalize keyAt keys (i : Int) = b at *
    generalize hc : cmpV f a b = c at *
    by_cases c1 : c < 0
    · have e1 : (c < 0) = True := eq_true c1
      rw [ha, decide_eq_true c1] at hs
      simp (maxSteps := 400000) only [↓preZ, postZ, coreZ, ↓preU, postU, D_all, F_all, unR, outL, onePV, binS, ↓binS, boundR, ↓boundR, fieldOf, ↓fieldOf, boxR, allocR, newObj, zeroElem, buildSliceR, appendR, setAll, storeR, St.freeze, makeSliceR, minmaxR, makeFuncR, BEq.rfl, reduceIte, reduceCtorEq, Nat.reduceLT, Nat.reduceAdd, Nat.reduceSub, Nat.reduceMul, Nat.reduceBEq, Nat.reduceLeDiff, Int.reduceToNat, Int.reduceLE, hQ, hlt2, zi, zk, kk, ki, ↓ctrRef5, hcmp, e1]
      exact ⟨ok.1, ok.2, oi.2, ⟨by omega, by omega⟩, ⟨by omega, by omega⟩, m' - 1, by omega, k + 1, by omega, by rw [hs]; simp⟩
    have e1 : (c < 0) = False := eq_false c1
    by_cases c2 : c = 0
    rotate_left 1
    · have e2 : (c = 0) = False := eq_false c2
      rw [ha, decide_eq_false c1, decide_eq_false c2] at hs
      simp (maxSteps := 400000) only [↓preZ, postZ, coreZ, ↓preU, postU, D_all, F_all, unR, outL, onePV, binS, ↓binS, boundR, ↓boundR, fieldOf, ↓fieldOf, boxR, allocR, newObj, zeroElem, buildSliceR, appendR, setAll, storeR, St.freeze, makeSliceR, minmaxR, makeFuncR, BEq.rfl, reduceIte, reduceCtorEq, Nat.reduceLT, Nat.reduceAdd, Nat.reduceSub, Nat.reduceMul, Nat.reduceBEq, Nat.reduceLeDiff, Int.reduceToNat, Int.reduceLE, hQ, hlt2, zi, zk, kk, ki, ↓ctrRef5, hcmp, e1, e2]
      exact ⟨ok.1, ok.2, oi.2, ⟨by omega, by omega⟩, m' - 1, by omega, k + 1, by omega, by rw [hs]; simp⟩
    have e2 : (c = 0) = True := eq_true c2
    by_cases c3 : k < i
    · have e3 : ((k : Int) < (i : Int)) = True := eq_true (by omega)
      rw [ha, decide_eq_false c1, decide_eq_true c2, decide_eq_true c3] at hs
      simp (maxSteps := 400000) only [↓preZ, postZ, coreZ, ↓preU, postU, D_all, F_all, unR, outL, onePV, binS, ↓binS, boundR, ↓boundR, fieldOf, ↓fieldOf, boxR, allocR, newObj, zeroElem, buildSliceR, appendR, setAll, storeR, St.freeze, makeSliceR, minmaxR, makeFuncR, BEq.rfl, reduceIte, reduceCtorEq, Nat.reduceLT, Nat.reduceAdd, Nat.reduceSub, Nat.reduceMul, Nat.reduceBEq, Nat.reduceLeDiff, Int.reduceToNat, Int.reduceLE, hQ, hlt2, zi, zk, kk, ki, ↓ctrRef5, hcmp, e1, e2, e3]
      exact ⟨ok.1, ok.2, oi.2, ⟨by omega, by omega⟩, ⟨by omega, by omega⟩, m' - 1, by omega, k + 1, by omega, by rw [hs]; simp⟩
    · have e3 : ((k : Int) < (i : Int)) = False := eq_false (by omega)
      rw [ha, decide_eq_false c1, decide_eq_true c2, decide_eq_false c3] at hs
      simp (maxSteps := 400000) only [↓preZ, postZ, coreZ, ↓preU, postU, D_all, F_all, unR, outL, onePV, binS, ↓binS, boundR, ↓boundR, fieldOf, ↓fieldOf, boxR, allocR, newObj, zeroElem, buildSliceR, appendR, setAll, storeR, St.freeze, makeSliceR, minmaxR, makeFuncR, BEq.rfl, reduceIte, reduceCtorEq, Nat.reduceLT, Nat.reduceAdd, Nat.reduceSub, Nat.reduceMul, Nat.reduceBEq, Nat.reduceLeDiff, Int.reduceToNat, Int.reduceLE, hQ, hlt2, zi, zk, kk, ki, ↓ctrRef5, hcmp, e1, e2, e3]
      exact ⟨ok.1, ok.2, oi.2, ⟨by omega, by omega⟩, m' - 1, by omega, k + 1, by omega, by rw [hs]; simp⟩
  · have hlt2 : ((k : Int) < (keys.length : Int)) = False := eq_false (by omega)
    have hk' : k = keys.length := by omega
    rw [hk', hr] at hcl ⊢
    rw [hk'] at hlt2
    have zp : (0 ≤ (p : Int)) = True := eq_true (by omega)
    have hpl2 : (partL l i).length = keys.length := by simp [partL, hlen]
    have hltp : ((p : Int) < (keys.length : Int)) = True := eq_true (by omega)
    have hpg : (partL l i)[p]? = some 0 := by
      rw [partL, List.getElem?_map, hp]; simp
    have ss : ((partL l i).map (PV.int .i64)).set p ((PV.int .i64 0).putCells 0 [PV.int .i64 (i : Int)]) = (partL l (i + 1)).map (PV.int .i64) := by
      rw [← hset, List.map_set]; rfl
    simp (maxSteps := 400000) only [↓preZ, postZ, coreZ, ↓preU, postU, D_all, F_all, unR, outL, onePV, binS, ↓binS, boundR, ↓boundR, fieldOf, ↓fieldOf, boxR, allocR, newObj, zeroElem, buildSliceR, appendR, setAll, storeR, St.freeze, makeSliceR, minmaxR, makeFuncR, BEq.rfl, reduceIte, reduceCtorEq, Nat.reduceLT, Nat.reduceAdd, Nat.reduceSub, Nat.reduceMul, Nat.reduceBEq, Nat.reduceLeDiff, Int.reduceToNat, Int.reduceLE, hQ, hlt2, zp, hpl2, hltp, hpg, ss]
    exact ⟨⟨by omega, by omega⟩, m - 1, by omega, i + 1, by omega, by simp⟩

def ctrRefSort (f : Nat) : Ctr := fun args objs K => match args with
  | [a0] => ofE encL a0 (HK.mk : HK fun keys => (OkL2 f keys) ∧ (KeysOk f keys) ∧ (keys.length ≤ 1000000) ∧ K (encI (sortV f keys)) objs 0)
  | _ => False
theorem ctrRefSort_ok (f : Nat) : CtrOk Try.prog f_louperef05_Sort (ctrRefSort f) := by
  intro args objs K h
  unfold ctrRefSort at h
  split at h
  · rename_i a0
    obtain ⟨keys, rfl, h1, h2, h3, hk⟩ := h
    exact ⟨_, _, _, .pure _ rfl (refSort_spec f keys h1 h2 h3), hk⟩
  · exact h.elim
end Lp

/-! LpW29 -/

namespace Lp
open Go Go.Proofs

set_option maxHeartbeats 4000000
set_option maxRecDepth 20000
set_option linter.unusedSimpArgs false

/-- The list of done groups, as it lies. -/
def doneO (D : List (List Int)) (u : Nat) : Obj := ⟨t_L_int, 1, D.map encI, true, u⟩

theorem doneO_frz (d n : Nat) (O : List Obj) (D : List (List Int)) (u : Nat) : frzO d n O (doneO D u) = doneO D u := by
  unfold frzO doneO
  simp only [mapI (frz d n O) (fun _ => rfl)]

theorem grp_frz (o : Obj) (g : List Int) (v : Nat) : frz 1 1 [o, grpO g v] (.osl 1 v) = encI g := by
  simp only [frz, Nat.lt_irrefl, if_false, frzI, List.getElem?_cons_succ, List.getElem?_cons_zero, grpO, Nat.le_refl, decide_true, Bool.and_self, BEq.rfl, if_true, encI, List.map_map]
  congr 1

theorem doneR (D : List (List Int)) (u : Nat) : (doneO D u).live = true ∧ (doneO D u).ver = u ∧ (doneO D u).ty = t_L_int ∧ (doneO D u).sz = 1 ∧ (doneO D u).xs = D.map encI := ⟨rfl, rfl, rfl, rfl, rfl⟩

theorem refGroups_spec (f : Nat) (keys : List Vl) (hk : OkL2 f keys) (hko : KeysOk f keys) (hl : keys.length ≤ 1000000) : FnSpec Try.prog f_louperef05_Groups [encL keys] [] (encG (groupsV f keys)) [] := by
  have hlen := sortV_len f keys
  have hin := sortV_in f keys
  have hgv : groupsV f keys = groupsF (sameK numN f keys) (sortV f keys) := rfl
  refine k_louperef05_Groups.pureG (T := tabL Try.prog [(f_louperef05_Sort, (ctrRefSort f)), (f_louperef05_Cmp, (ctrRef5 f))]) 2 hD (kOk_tabL (tabOk_cons (ctrRefSort_ok f) (tabOk_cons (ctrRef5_ok f) tabOk_nil))) hmix (by decide) fun Q hQ => ?_
  try simp only [F_all]
  generalize hL : sortV f keys = l at *
  simp (maxSteps := 400000) only [↓preZ, postZ, coreZ, ↓preU, postU, D_all, F_all, unR, outL, onePV, binS, ↓binS, boundR, ↓boundR, fieldOf, ↓fieldOf, boxR, allocR, newObj, zeroElem, buildSliceR, appendR, setAll, storeR, St.freeze, makeSliceR, minmaxR, makeFuncR, BEq.rfl, reduceIte, reduceCtorEq, Nat.reduceLT, Nat.reduceAdd, Nat.reduceSub, Nat.reduceMul, Nat.reduceBEq, Nat.reduceLeDiff, Int.reduceToNat, Int.reduceLE, hQ, c_louperef05_Groups, ↓ctrRefSort, hL]
  refine ⟨hk, hko, hl, ?_⟩
  have z1 : ∀ d O v, frz d 1 O (.osl 0 v) = .osl 0 v := fun _ _ _ => rfl
  have fin : ∀ (G : List (List Int)) u, frzT 2 0 [doneO G u] (.osl 0 u) = encG G := fun G u => (frzRow hG inG).1 1 t_L_int G u []
  refine wpc_loop (fun m S => ∃ i : Nat, i + m = l.length ∧ ((i = 0 ∧ S = ⟨tmA 57 [(0, encL keys), (3, .osl 0 1), (4, encI l), (5, .osl 1 1), (6, .int .i64 i)], [doneO [] 1, grpO [] 1]⟩) ∨
      ∃ D c cs u v, grpF (sameK numN f keys) D c cs (l.drop i) = groupsF (sameK numN f keys) l ∧ D.length + 1 ≤ i ∧ cs.length + 1 ≤ i ∧ InL keys c ∧
      S = ⟨tmA 57 [(0, encL keys), (3, .osl 0 u), (4, encI l), (5, .osl 1 v), (6, .int .i64 i)], [doneO D u, grpO (c :: cs) v]⟩)) l.length ⟨0, by omega, .inl ⟨rfl, ?_⟩⟩ ?_
  · simp only [normR, keepR, Nat.reduceAdd, lkR, Nat.reduceBEq, F_all, List.map_nil]
    rfl
  rintro m S ⟨i, him, hcase⟩
  rcases Nat.lt_or_ge i l.length with h | h
  rotate_left 1
  · have hlt : ((i : Int) < (l.length : Int)) = False := eq_false (by omega)
    rcases hcase with ⟨rfl, rfl⟩ | ⟨D, c, cs, u, v, hg, hD, hcs, hc, rfl⟩
    · have e0 : (grpO [] 1).xs.length = 0 := rfl
      have e : l = [] := List.length_eq_zero_iff.1 (by omega)
      have hr0 : (grpO [] 1).live = true ∧ (grpO [] 1).ver = 1 := ⟨rfl, rfl⟩
      have g0 : ((0 : Int) < ((0 : Nat) : Int)) = False := eq_false (by omega)
      simp (maxSteps := 400000) only [↓preZ, postZ, coreZ, ↓preU, postU, D_all, F_all, unR, outL, onePV, binS, ↓binS, boundR, ↓boundR, fieldOf, ↓fieldOf, boxR, allocR, newObj, zeroElem, buildSliceR, appendR, setAll, storeR, St.freeze, makeSliceR, minmaxR, makeFuncR, BEq.rfl, reduceIte, reduceCtorEq, Nat.reduceLT, Nat.reduceAdd, Nat.reduceSub, Nat.reduceMul, Nat.reduceBEq, Nat.reduceLeDiff, Int.reduceToNat, Int.reduceLE, hQ, hlt, hr0, e0, g0]
      rw [hgv, e]
      exact ((frzRow hG inG).1 1 t_L_int [] 1 [grpO [] 1]).symm
    · have g0 : ((0 : Int) < ((cs.length + 1 : Nat) : Int)) = True := eq_true (by omega)
      simp (maxSteps := 400000) only [↓preZ, postZ, coreZ, ↓preU, postU, D_all, F_all, unR, outL, onePV, binS, ↓binS, boundR, ↓boundR, fieldOf, ↓fieldOf, boxR, allocR, newObj, zeroElem, buildSliceR, appendR, setAll, storeR, St.freeze, makeSliceR, minmaxR, makeFuncR, BEq.rfl, reduceIte, reduceCtorEq, Nat.reduceLT, Nat.reduceAdd, Nat.reduceSub, Nat.reduceMul, Nat.reduceBEq, Nat.reduceLeDiff, Int.reduceToNat, Int.reduceLE, hQ, hlt, grpR, g0]
      refine wpc_weak _ (Weak.freeze 1 1 (Nat.zero_le _) _) ?_
      simp (maxSteps := 400000) only [↓preZ, postZ, coreZ, ↓preU, postU, D_all, F_all, unR, outL, onePV, binS, ↓binS, boundR, ↓boundR, fieldOf, ↓fieldOf, boxR, allocR, newObj, zeroElem, buildSliceR, appendR, setAll, storeR, St.freeze, makeSliceR, minmaxR, makeFuncR, BEq.rfl, reduceIte, reduceCtorEq, Nat.reduceLT, Nat.reduceAdd, Nat.reduceSub, Nat.reduceMul, Nat.reduceBEq, Nat.reduceLeDiff, Int.reduceToNat, Int.reduceLE, hQ, z1, grp_frz, doneO_frz, List.take_succ_cons, doneR]
      refine ⟨by omega, by omega, ?_⟩
      rw [hgv, ← hg, List.drop_eq_nil_of_le h]
      have e : List.map encI D ++ [encI (c :: cs)] = List.map encI (D ++ [c :: cs]) := by simp
      rw [e]
      exact (fin (D ++ [c :: cs]) (u + 1)).symm
  have hlt : ((i : Int) < (l.length : Int)) = True := eq_true (by omega)
  have hgi := List.getElem?_eq_getElem h
  have hdr := List.drop_eq_getElem_cons h
  have hini := hin _ (List.getElem_mem h)
  generalize l[i] = x at hgi hdr hini
  have zi : (0 ≤ (i : Int)) = True := eq_true (by omega)
  rcases hcase with ⟨rfl, rfl⟩ | ⟨D, c, cs, u, v, hg, hD, hcs, hc, rfl⟩
  · have e0 : (grpO [] 1).xs.length = 0 := rfl
    have hr0 : (grpO [] 1).live = true ∧ (grpO [] 1).ver = 1 ∧ (grpO [] 1).sz = 1 ∧ (grpO [] 1).ty = t_int := ⟨rfl, rfl, rfl, rfl⟩
    have g0 : ((0 : Int) < ((0 : Nat) : Int)) = False := eq_false (by omega)
    simp (maxSteps := 400000) only [↓preZ, postZ, coreZ, ↓preU, postU, D_all, F_all, unR, outL, onePV, binS, ↓binS, boundR, ↓boundR, fieldOf, ↓fieldOf, boxR, allocR, newObj, zeroElem, buildSliceR, appendR, setAll, storeR, St.freeze, makeSliceR, minmaxR, makeFuncR, BEq.rfl, reduceIte, reduceCtorEq, Nat.reduceLT, Nat.reduceAdd, Nat.reduceSub, Nat.reduceMul, Nat.reduceBEq, Nat.reduceLeDiff, Int.reduceToNat, Int.reduceLE, hQ, hlt, hr0, e0, g0, zi, hgi]
    refine ⟨⟨by omega, by omega⟩, m - 1, by omega, 1, by omega, .inr ⟨[], x, [], 1, 2, ?_, by simp, by simp, hini, ?_⟩⟩
    · rw [List.drop_zero] at hdr
      rw [hdr]; rfl
    · rfl
  · obtain ⟨x, rfl⟩ : ∃ k : Nat, x = k := ⟨x.toNat, by have := hini.1; omega⟩
    obtain ⟨c, rfl⟩ : ∃ k : Nat, c = k := ⟨c.toNat, by have := hc.1; omega⟩
    have kx := keyAt_some hini
    have kc := keyAt_some hc
    rw [Int.toNat_natCast] at kx kc
    have ox := hk.2 _ (List.mem_of_getElem? kx)
    have oc := hk.2 _ (List.mem_of_getElem? kc)
    have hcmp : cmpW refN f (keyAt keys (x : Int)) (keyAt keys (c : Int)) = cmpV f (keyAt keys (x : Int)) (keyAt keys (c : Int)) := cmpW_ref f _ _ (keyAt_ok hko hini).2 (keyAt_ok hko hc).2
    have t2 : Int.toNat 0 = 0 := rfl
    have zx : (0 ≤ (x : Int)) = True := eq_true (by omega)
    have zc : (0 ≤ (c : Int)) = True := eq_true (by omega)
    have g0 : ((0 : Int) < ((cs.length + 1 : Nat) : Int)) = True := eq_true (by omega)
    have hsame : sameK numN f keys x c = decide (cmpV f (keyAt keys (x : Int)) (keyAt keys (c : Int)) = 0) := by
      simp only [sameK, Int.toNat_natCast, kx, kc]
    generalize keyAt keys (x : Int) = a at *
    generalize keyAt keys (c : Int) = b at *
    rw [hdr, grpF, hsame] at hg
    by_cases h1 : cmpV f a b = 0
    · have e1 : (cmpV f a b = 0) = True := eq_true h1
      rw [decide_eq_true h1, if_pos rfl] at hg
      have s2 : (grpO ((c : Int) :: cs) v).xs ++ [.int .i64 (x : Int)] = (grpO ((c : Int) :: (cs ++ [(x : Int)])) (v + 1)).xs := by simp [grpO]
      simp (maxSteps := 400000) only [↓preZ, postZ, coreZ, ↓preU, postU, D_all, F_all, unR, outL, onePV, binS, ↓binS, boundR, ↓boundR, fieldOf, ↓fieldOf, boxR, allocR, newObj, zeroElem, buildSliceR, appendR, setAll, storeR, St.freeze, makeSliceR, minmaxR, makeFuncR, BEq.rfl, reduceIte, reduceCtorEq, Nat.reduceLT, Nat.reduceAdd, Nat.reduceSub, Nat.reduceMul, Nat.reduceBEq, Nat.reduceLeDiff, Int.reduceToNat, Int.reduceLE, hQ, hlt, hgi, zi, ↓ctrRef5, hcmp, grpR, g0, kx, kc, t2, zx, zc, e1, s2]
      refine ⟨ox.1, ox.2, oc.2, by omega, by omega, ⟨by omega, by omega⟩, m - 1, by omega, i + 1, by omega, .inr ⟨D, c, cs ++ [(x : Int)], u, v + 1, hg, by omega, by simp; omega, hc, ?_⟩⟩
      rfl
    · have e1 : (cmpV f a b = 0) = False := eq_false h1
      rw [decide_eq_false h1, if_neg (by simp)] at hg
      simp (maxSteps := 400000) only [↓preZ, postZ, coreZ, ↓preU, postU, D_all, F_all, unR, outL, onePV, binS, ↓binS, boundR, ↓boundR, fieldOf, ↓fieldOf, boxR, allocR, newObj, zeroElem, buildSliceR, appendR, setAll, storeR, St.freeze, makeSliceR, minmaxR, makeFuncR, BEq.rfl, reduceIte, reduceCtorEq, Nat.reduceLT, Nat.reduceAdd, Nat.reduceSub, Nat.reduceMul, Nat.reduceBEq, Nat.reduceLeDiff, Int.reduceToNat, Int.reduceLE, hQ, hlt, hgi, zi, ↓ctrRef5, hcmp, grpR, g0, kx, kc, t2, zx, zc, e1]
      refine ⟨ox.1, ox.2, oc.2, ?_⟩
      refine wpc_weak _ (Weak.freeze 1 1 (Nat.zero_le _) _) ?_
      simp (maxSteps := 400000) only [↓preZ, postZ, coreZ, ↓preU, postU, D_all, F_all, unR, outL, onePV, binS, ↓binS, boundR, ↓boundR, fieldOf, ↓fieldOf, boxR, allocR, newObj, zeroElem, buildSliceR, appendR, setAll, storeR, St.freeze, makeSliceR, minmaxR, makeFuncR, BEq.rfl, reduceIte, reduceCtorEq, Nat.reduceLT, Nat.reduceAdd, Nat.reduceSub, Nat.reduceMul, Nat.reduceBEq, Nat.reduceLeDiff, Int.reduceToNat, Int.reduceLE, hQ, z1, grp_frz, doneO_frz, List.take_succ_cons, doneR, hgi, zi]
      refine ⟨by omega, by omega, ⟨by omega, by omega⟩, m - 1, by omega, i + 1, by omega, .inr ⟨D ++ [(c : Int) :: cs], x, [], u + 1, 2, hg, by simp; omega, by simp, hini, ?_⟩⟩
      have e : List.map encI D ++ [encI ((c : Int) :: cs)] = List.map encI (D ++ [(c : Int) :: cs]) := by simp
      rw [e]
      rfl

def ctrRefGroups (f : Nat) : Ctr := fun args objs K => match args with
  | [a0] => ofE encL a0 (HK.mk : HK fun keys => (OkL2 f keys) ∧ (KeysOk f keys) ∧ (keys.length ≤ 1000000) ∧ K (encG (groupsV f keys)) objs 0)
  | _ => False
theorem ctrRefGroups_ok (f : Nat) : CtrOk Try.prog f_louperef05_Groups (ctrRefGroups f) := by
  intro args objs K h
  unfold ctrRefGroups at h
  split at h
  · rename_i a0
    obtain ⟨keys, rfl, h1, h2, h3, hk⟩ := h
    exact ⟨_, _, _, .pure _ rfl (refGroups_spec f keys h1 h2 h3), hk⟩
  · exact h.elim
end Lp

/-! LpX -/

namespace Lp
open Go

/-- Cells of a type that can be read are values of this kind. -/
def Rd (P : Program) (t : TypeId) {α : Type} (enc : α → PV) (good : α → Prop) : Prop :=
  ∀ {H : Type} (eh : TypeId × Value → H) (w : World) (fuel : Nat) (cs : List Value) (x : DataW H × List MemPlace), DataW.trod eh P w 0 (fun _ => true) true fuel t cs = some x →
    (∀ n ∈ DataW.weights P t x.1, n ≤ reachBytes) → ∃ a : α, good a ∧ RepL (Rep w (fun _ => True)) (enc a).cells cs

variable {P : Program}

theorem repL_one {R : PV → Value → Prop} {p : PV} {v : Value} (h : R p v) : RepL R [p] [v] :=
  ⟨rfl, fun i q u h1 h2 => by
    cases i with
    | zero => simp at h1 h2; subst h1; subst h2; exact h
    | succ i => simp at h1⟩

theorem Rd.int {t : TypeId} {k : IntKind} (ht : P.underlying t = some (.int k)) : Rd P t (.int k) (inR k) := by
  intro H eh w fuel cs x h _
  obtain ⟨n, rfl, rfl, hw⟩ := DataW.trod_int ht h
  refine ⟨n, ?_, repL_one (.int k n)⟩
  simp only [Lit.wf, Bool.and_eq_true, decide_eq_true_eq] at hw
  cases k <;> simp only [IntKind.min, IntKind.max, IntKind.signed, IntKind.bits, inR] at hw ⊢ <;> first | exact ⟨by simpa using hw.1, by simpa using hw.2⟩ | (simp at hw; omega)

theorem Rd.bool {t : TypeId} (ht : P.underlying t = some .bool) : Rd P t PV.bool (fun _ => True) := by
  intro H eh w fuel cs x h _
  obtain ⟨b, rfl, rfl⟩ := DataW.trod_bool ht h
  exact ⟨b, trivial, repL_one (.bool b)⟩

theorem Rd.str {t : TypeId} (ht : P.underlying t = some .string) : Rd P t PV.str (fun s => s.length ≤ reachBytes) := by
  intro H eh w fuel cs x h hw
  obtain ⟨s, rfl, rfl, _⟩ := DataW.trod_string ht h
  refine ⟨s.data.toList, hw _ ?_, repL_one (rep_str w _ s)⟩
  rw [DataW.weights]; simp

theorem Rd.slice {t e : TypeId} {α : Type} [Inhabited α] {enc : α → PV} {good : α → Prop} {sz : Nat} (ht : P.underlying t = some (.slice e)) (he : Rd P e enc good) (hsz : P.cellsOf e = sz) (hpos : sz ≠ 0) (hc : ∀ a, (enc a).cells.length = sz) :
    Rd P t (fun l : List α => .sl sz (l.map enc) none) (fun l => l.length * P.bytesOf e ≤ reachBytes ∧ ∀ a ∈ l, good a) := by
  intro H eh w fuel cs x h hw
  rcases Go.Deep.open_slice ht h with ⟨rfl, rfl⟩ | ⟨a, len, cap, m, n, D, Pl, rfl, hb, hl, hm, hmm, rfl, hx⟩
  · exact ⟨[], by simp, repL_one (.slnil _ _ (by simp))⟩
  · simp only [if_true] at hmm
    subst hmm
    have hwt : ∀ i, i < len → ∀ n ∈ DataW.weights P e (D i), n ≤ reachBytes := by
      intro i hi n hn
      refine hw n ?_
      rw [DataW.weights, ht]
      simp only [List.mem_cons, List.mem_append]
      right; left
      have key : ∀ (l : List (DataW H)) d, d ∈ l → n ∈ DataW.weights P e d → n ∈ DataW.weightsAll P e l := by
        intro l
        induction l with
        | nil => intro d hd; cases hd
        | cons y ys ih =>
          intro d hd hn
          rw [DataW.weightsAll, List.mem_append]
          rcases List.mem_cons.1 hd with rfl | hd
          · exact .inl hn
          · exact .inr (ih d hd hn)
      exact key _ (D i) (List.mem_map.2 ⟨i, List.mem_range.2 hi, rfl⟩) hn
    have hlen : (len : Nat) * P.bytesOf e ≤ reachBytes := by
      have := hw ((((List.range len).map D).length + ((List.range (m - len)).map fun j => D (len + j)).length) * P.bytesOf e) (by rw [DataW.weights, ht]; exact List.mem_cons_self)
      simp only [List.length_map, List.length_range] at this
      exact Nat.le_trans (Nat.mul_le_mul_right _ (by omega)) this
    obtain ⟨f, hf⟩ : ∃ f : Nat → α × List Value, ∀ i, i < len → good (f i).1 ∧ w.cells? 0 (a.add (i * P.cellsOf e)) (P.cellsOf e) = some (f i).2 ∧ RepL (Rep w (fun _ => True)) (enc (f i).1).cells (f i).2 := by
      have hex : ∀ i, i < len → ∃ y : α × List Value, good y.1 ∧ w.cells? 0 (a.add (i * P.cellsOf e)) (P.cellsOf e) = some y.2 ∧ RepL (Rep w (fun _ => True)) (enc y.1).cells y.2 := by
        intro i hi
        obtain ⟨cs', h1, h2⟩ := hx i (by omega)
        obtain ⟨y, g1, g2⟩ := he eh w n cs' _ h2 (hwt i hi)
        exact ⟨(y, cs'), g1, h1, g2⟩
      exact Go.Deep.choose_lt hex
    rcases Nat.eq_zero_or_pos len with h0 | h0
    · subst h0
      exact ⟨[], by simp, repL_one (.slz _ _ (by simp) a m hm)⟩
    have hspot : a.spot = none := by
      obtain ⟨_, h2, h3⟩ := hf 0 h0
      obtain ⟨_, g1, g2⟩ := World.cells?_some h2
      have := g2 0 (by omega)
      rw [List.getElem?_eq_getElem (by omega)] at this
      have := World.cell?_spot this
      simpa [Addr.add] using this
    obtain ⟨b, off, spot⟩ := a
    simp only at hspot
    subst hspot
    have hcells : ∀ i, i < len → ∀ j, j < sz → w.cell? ⟨b, off + i * sz + j, none⟩ = (f i).2[j]? := by
      intro i hi j hj
      obtain ⟨_, h2, _⟩ := hf i hi
      obtain ⟨_, _, g2⟩ := World.cells?_some h2
      have := g2 j (by omega)
      rw [hsz, add_lit, add_lit] at this
      exact this
    have hget : ∀ (i : Nat) (x : PV), (((List.range len).map fun i => (f i).1).map enc)[i]? = some x → i < len ∧ x = enc (f i).1 := by
      intro i x hx
      have hi : i < len := by
        have := (List.getElem?_eq_some_iff.1 hx).1
        simpa using this
      rw [List.getElem?_map, List.getElem?_map, List.getElem?_range hi] at hx
      simp only [Option.map_some, Option.some.injEq] at hx
      exact ⟨hi, hx.symm⟩
    have hL : (((List.range len).map fun i => (f i).1).map enc).length = len := by simp
    refine ⟨(List.range len).map fun i => (f i).1, ⟨by simpa using hlen, fun y hy => ?_⟩, repL_one ?_⟩
    · obtain ⟨i, hi, rfl⟩ := List.mem_map.1 hy
      exact (hf i (List.mem_range.1 hi)).1
    · have : Rep w (fun _ => True) (.sl sz (((List.range len).map fun i => (f i).1).map enc) none) (.slice (some ⟨b, off, none⟩) (((List.range len).map fun i => (f i).1).map enc).length m) := by
        refine .sl sz _ none (by simp) b off m (fun i j => (f i).2.getD j undef) (fun _ => ⟨trivial, ?_⟩) (by rw [hL]; exact hl) hm (fun i x hx => ?_) (fun i x j p hx hp => ?_) (fun i x j p hx hp => ?_)
        · have := hcells 0 h0 0 (by omega)
          obtain ⟨_, h2, _⟩ := hf 0 h0
          obtain ⟨_, g1, _⟩ := World.cells?_some h2
          rw [List.getElem?_eq_getElem (by omega)] at this
          unfold World.cell? at this
          simp only at this
          cases hb' : w.heap[b]? with
          | none => rw [hb'] at this; simp at this
          | some o => exact (Array.getElem?_eq_some_iff.1 hb').1
        · obtain ⟨_, rfl⟩ := hget i x hx
          exact hc _
        · obtain ⟨hi, rfl⟩ := hget i x hx
          have hj : j < sz := by rw [← hc (f i).1]; exact (List.getElem?_eq_some_iff.1 hp).1
          rw [hcells i hi j hj]
          obtain ⟨_, h2, _⟩ := hf i hi
          obtain ⟨_, g1, _⟩ := World.cells?_some h2
          rw [List.getD_eq_getElem?_getD, List.getElem?_eq_getElem (by omega)]
          rfl
        · obtain ⟨hi, rfl⟩ := hget i x hx
          have hj : j < sz := by rw [← hc (f i).1]; exact (List.getElem?_eq_some_iff.1 hp).1
          obtain ⟨_, h2, h3⟩ := hf i hi
          obtain ⟨_, g1, _⟩ := World.cells?_some h2
          exact h3.2 j p _ hp (by rw [List.getD_eq_getElem?_getD, List.getElem?_eq_getElem (by omega)]; rfl)
      rw [hL] at this
      exact this


theorem weightsEach_mem {H : Type} {n : Nat} : ∀ (ts : List TypeId) (ds : List (DataW H)) (i : Nat) (t : TypeId) (d : DataW H), ts[i]? = some t → ds[i]? = some d → n ∈ DataW.weights P t d → n ∈ DataW.weightsEach P ts ds
  | [], _, i, t, d, h, _, _ => by simp at h
  | _ :: _, [], i, t, d, _, h, _ => by simp at h
  | t' :: ts, d' :: ds, i, t, d, h1, h2, hn => by
    rw [DataW.weightsEach, List.mem_append]
    cases i with
    | zero => simp at h1 h2; subst h1; subst h2; exact .inl hn
    | succ i => exact .inr (weightsEach_mem ts ds i t d (by simpa using h1) (by simpa using h2) hn)

/-- A struct's fields, read. -/
theorem struct_parts {H : Type} {eh : TypeId × Value → H} {w : World} {fuel : Nat} {t : TypeId} {fs : Array Field} {cs : List Value} {x : DataW H × List MemPlace} (ht : P.underlying t = some (.struct fs))
    (h : DataW.trod eh P w 0 (fun _ => true) true fuel t cs = some x) (hw : ∀ n ∈ DataW.weights P t x.1, n ≤ reachBytes) :
    cs.length = P.cellsOf t ∧ ∀ (i off : Nat) (e : TypeId), (fs.toList.map fun f => (f.offset, f.type))[i]? = some (off, e) → ∃ n y, DataW.trod eh P w 0 (fun _ => true) true n e ((cs.drop off).take (P.cellsOf e)) = some y ∧ (∀ m ∈ DataW.weights P e y.1, m ≤ reachBytes) := by
  obtain ⟨xs, n, _, rfl, hl, hlen, hf⟩ := DataW.trod_struct ht h
  refine ⟨hl, fun i off e he => ?_⟩
  rw [List.getElem?_map] at he
  cases hfi : fs.toList[i]? with
  | none => rw [hfi] at he; simp at he
  | some f =>
    rw [hfi] at he
    simp only [Option.map_some, Option.some.injEq, Prod.mk.injEq] at he
    obtain ⟨rfl, rfl⟩ := he
    have hfi' : fs[i]? = some f := by simpa using hfi
    have hi : i < xs.length := by rw [hlen]; exact (Array.getElem?_eq_some_iff.1 hfi').1
    have h1 := hf i f hfi'
    rw [List.getElem?_eq_getElem hi] at h1
    refine ⟨n, xs[i], h1, fun m hm => hw m ?_⟩
    rw [DataW.weights, ht]
    exact weightsEach_mem _ _ i f.type xs[i].1 (by rw [List.getElem?_map, hfi]; rfl) (by rw [List.getElem?_map, List.getElem?_eq_getElem hi]; rfl) hm

/-! ### A law -/

/-- Rows of arguments stay as they read. -/
theorem trodAll_stays {H : Type} {eh : TypeId × Value → H} (hl : laidOutB P = true) {W W' : World} (hb : ∀ b, b < W.heap.size → W'.heap[b]? = W.heap[b]?) :
    ∀ (ts : List TypeId) (vs : List Value) (ds : List (DataW H)) (ps : List MemPlace), (∀ t ∈ ts, P.readableRec t = true ∧ t < P.types.size) → DataW.TrodAll eh P W 0 (fun _ => true) true ts vs ds ps →
      DataW.TrodAll eh P W' 0 (fun b => decide (b < W.heap.size)) true ts vs ds ps
  | [], [], [], ps, _, h => h
  | t :: ts, v :: vs, d :: ds, ps, hr, ⟨p, q, h1, h2, h3⟩ => by
    have hlt : ∀ x ∈ p, x.block < W.heap.size := by obtain ⟨m, hm⟩ := h1; exact DataW.trod_lt m _ _ _ hm
    refine ⟨p, q, Go.WideElems.Trod_stays hl (hr t (by simp)).1 (hr t (by simp)).2 h1 (fun x hx => ?_) (fun x hx => by simpa using hlt x hx), trodAll_stays hl hb ts vs ds q (fun t ht => hr t (by simp [ht])) h2, h3⟩
    cases x with
    | cell b o => exact World.cell?_of_block (w := W) (hb b (hlt _ hx))
    | map b => exact hb b (hlt _ hx)
  | [], _ :: _, _, _, _, h => h.elim
  | [], [], _ :: _, _, _, h => h.elim
  | _ :: _, [], _, _, _, h => h.elim
  | _ :: _, _ :: _, [], _, _, h => h.elim

/-- Arguments that can be read are pure values of which a contract holds: then the law holds. -/
theorem law_lifted {C : Checked} {os : Os} {H : Type} {enc : TypeId × Value → H} {f : FuncId} {fn : Func} {s : ChangeSpec} {tb : TypeId}
    (own : ownKnob C.prog.godebug = none) (started : os.Started) (noInit : C.prog.inits.idxOf? f = none) (hfn : C.prog.funcs[f]? = some fn)
    (witness : ∃ (w : World) (tape : Tape) (i : Input), w.os = os ∧ (w.forCall tape i).Shaped C.prog ∧ i.vars = [] ∧ Input.okWide C.prog (w.forCall tape i) .any w.heap.size f i ∧
      s.pre6 enc C.prog fn [] false (w.forCall tape i).memory i.args ∧ ({} : Assume).holds C.prog (lone (Frame.enter C.prog f i.args .normal) [] (w.forCall tape i)))
    (hlaid : laidOutB C.prog = true) (hr : ∀ t ∈ fn.params.toList, C.prog.readableRec t = true ∧ t < C.prog.types.size)
    (hres : fn.resultTypes.toList = [tb]) (hsz : fn.resultTypes.size = 1) (hb : C.prog.underlying tb = some .bool)
    (hvars : s.vars = []) (hpl : s.plain.varTypes C.prog = []) (hs : ∀ ds : List (DataW H), ds.length = fn.params.toList.length → s.fn H ds = { results := [.lit (.bool true)], args := ds })
    (hread : ∀ (W : World) (base : Nat) (args : List Value) (ds : List (DataW H)) (ps : List MemPlace), (∀ (j : Nat) t v, fn.params[j]? = some t → args[j]? = some v → Value.okWide C.prog W .any base t v) → DataW.TrodAll enc C.prog W 0 (fun _ => true) true fn.params.toList args ds ps → (∀ n ∈ DataW.weightsEach C.prog fn.params.toList ds, n ≤ reachBytes) →
      ∃ pvs, RepL (Rep W (fun _ => True)) pvs args ∧ FnSpec C.prog f pvs [] (.bool true) []) :
    ReturnsInHanded {} C os f .any (s.pre6 enc C.prog fn [] false) (s.post enc C.prog fn false true false false) := by
  refine returnsInHanded_of_change_sized (C := C) own started noInit hfn witness ?_
  intro W base args ds gs before hval hW _ hsize _
  have hW' := hW
  obtain ⟨p, q, hA, hV, rfl, hfz, hnd⟩ := hW
  rw [hvars] at hV
  obtain ⟨rfl, rfl⟩ := Go.ChangeShapes.trodVars_none hV
  have hlen : ds.length = fn.params.toList.length := by
    have : ∀ (ts : List TypeId) (vs : List Value) (ds : List (DataW H)) (ps : List MemPlace), DataW.TrodAll enc C.prog W 0 (fun _ => true) true ts vs ds ps → ds.length = ts.length := by
      intro ts
      induction ts with
      | nil => intro vs ds ps h; cases vs <;> cases ds <;> simp [DataW.TrodAll] at h ⊢
      | cons t ts ih =>
        intro vs ds ps h
        cases vs <;> cases ds <;> simp [DataW.TrodAll] at h ⊢
        obtain ⟨_, _, _, h2, _⟩ := h
        exact ih _ _ _ h2
    exact this _ _ _ _ hA
  rw [hpl, List.append_nil, List.append_nil, List.all_eq_true] at hsize
  obtain ⟨pvs, hrep, hspec⟩ := hread W base args.toList ds p (fun j t v h1 h2 => hval j t v h1 (by simpa using h2)) hA (fun n hn => by simpa using hsize n hn)
  have hargs : RepL (RepT W (okL (fun _ => True) [] (fun _ => none)) [] (fun _ => none)) pvs args.toList :=
    ⟨hrep.1, fun i p v a b => .of_rep ((hrep.2 i p v a b).anyOk fun _ _ _ => ⟨trivial, notLive_nil _ _⟩)⟩
  have hc := hspec.2 W (fun _ => none) args.toList (fun _ => True) (fun _ _ => trivial) (nilObjs _ _ _ _) hargs
  refine Calls.mono hc fun e W' ⟨v, blk', he, _, hv, hheap, hsize', hsm⟩ => ?_
  subst he
  have hv' := hv.bool
  subst hv'
  have hkeep : ∀ b, b < W.heap.size → W'.heap[b]? = W.heap[b]? := fun b hb => hheap b hb (notLive_nil _ _)
  refine ⟨_, rfl, ds, [], p ++ [], [], p, [], hW', ?_, ?_, ?_, ?_, fun h => by cases h⟩
  · rw [List.append_nil, hs ds hlen, hres, hsz]
    exact Go.ChangeShapes.trodAll_mk1 (Go.RowKit.shut_bool hb true)
  · rw [List.append_nil, hs ds hlen]
    exact trodAll_stays hlaid hkeep _ _ _ _ hr hA
  · rw [hvars, List.append_nil, hs ds hlen]; rfl
  · refine ⟨hsm.1, hsm.2, fun i hi => ?_⟩
    rw [hkeep i hi]
    split <;> simp_all

end Lp

/-! LpRd -/

namespace Lp
open Go Go.Proofs

set_option maxHeartbeats 2000000
set_option maxRecDepth 20000

instance : Inhabited Nd := ⟨⟨0, 0, [], [], false, 0⟩⟩

/-- What any node that can be read is. -/
structure BigN (n : Nd) : Prop where
  kind : inR .i64 n.kind
  many : inR .i64 n.many
  name : n.name.length ≤ reachBytes
  s : n.s.length ≤ reachBytes
  e : inR .i64 n.e

theorem one_cell {t : TypeId} (hc : Try.prog.cellsOf t = 1) {cs : List Value} {off : Nat} {v : Value} (h : cs[off]? = some v) : (cs.drop off).take (Try.prog.cellsOf t) = [v] := by
  rw [hc]
  have hl := (List.getElem?_eq_some_iff.1 h).1
  rw [show (cs.drop off) = cs[off] :: cs.drop (off + 1) from List.drop_eq_getElem_cons hl]
  rw [List.getElem?_eq_getElem hl] at h
  cases h
  rw [List.take_succ_cons, List.take_zero]

theorem u_int : Try.prog.underlying t_int = some (.int .i64) := by kernel_rfl
theorem u_string : Try.prog.underlying t_string = some .string := by kernel_rfl
theorem u_bool : Try.prog.underlying t_bool = some .bool := by kernel_rfl
theorem u_val : Try.prog.underlying t_api_Val = some (.slice t_api_Node) := by kernel_rfl
theorem u_vals : Try.prog.underlying t_L_api_Val = some (.slice t_api_Val) := by kernel_rfl
theorem c_int : Try.prog.cellsOf t_int = 1 := by kernel_rfl
theorem c_string : Try.prog.cellsOf t_string = 1 := by kernel_rfl
theorem c_bool : Try.prog.cellsOf t_bool = 1 := by kernel_rfl

theorem u_node : ∃ fs : Array Field, Try.prog.underlying t_api_Node = some (.struct fs) ∧ fs.toList.map (fun f => (f.offset, f.type)) = [(0, t_int), (1, t_int), (2, t_string), (3, t_string), (4, t_bool), (5, t_int)] :=
  ⟨Try.prog.fieldsOf t_api_Node, by kernel_rfl, by kernel_rfl⟩

theorem rd_node : Rd Try.prog t_api_Node encN BigN := by
  intro H eh w fuel cs x h hw
  obtain ⟨fs, ht, hfs⟩ := u_node
  obtain ⟨hl, hp⟩ := struct_parts ht h hw
  rw [hfs] at hp
  have hc : Try.prog.cellsOf t_api_Node = 6 := by kernel_rfl
  rw [hc] at hl
  match cs, hl with
  | [v0, v1, v2, v3, v4, v5], _ =>
    obtain ⟨n0, y0, a0, b0⟩ := hp 0 0 t_int rfl
    obtain ⟨n1, y1, a1, b1⟩ := hp 1 1 t_int rfl
    obtain ⟨n2, y2, a2, b2⟩ := hp 2 2 t_string rfl
    obtain ⟨n3, y3, a3, b3⟩ := hp 3 3 t_string rfl
    obtain ⟨n4, y4, a4, b4⟩ := hp 4 4 t_bool rfl
    obtain ⟨n5, y5, a5, b5⟩ := hp 5 5 t_int rfl
    rw [one_cell c_int (v := v0) rfl] at a0
    rw [one_cell c_int (v := v1) rfl] at a1
    rw [one_cell c_string (v := v2) rfl] at a2
    rw [one_cell c_string (v := v3) rfl] at a3
    rw [one_cell c_bool (v := v4) rfl] at a4
    rw [one_cell c_int (v := v5) rfl] at a5
    obtain ⟨k, g0, r0⟩ := Rd.int u_int eh w n0 _ _ a0 b0
    obtain ⟨m, g1, r1⟩ := Rd.int u_int eh w n1 _ _ a1 b1
    obtain ⟨nm, g2, r2⟩ := Rd.str u_string eh w n2 _ _ a2 b2
    obtain ⟨s, g3, r3⟩ := Rd.str u_string eh w n3 _ _ a3 b3
    obtain ⟨g, _, r4⟩ := Rd.bool u_bool eh w n4 _ _ a4 b4
    obtain ⟨e, g5, r5⟩ := Rd.int u_int eh w n5 _ _ a5 b5
    refine ⟨⟨k, m, nm, s, g, e⟩, ⟨g0, g1, g2, g3, g5⟩, rfl, fun i p v h1 h2 => ?_⟩
    match i with
    | 0 => simp [encN, PV.cells] at h1 h2; subst h1; subst h2; exact r0.2 0 _ _ rfl rfl
    | 1 => simp [encN, PV.cells] at h1 h2; subst h1; subst h2; exact r1.2 0 _ _ rfl rfl
    | 2 => simp [encN, PV.cells] at h1 h2; subst h1; subst h2; exact r2.2 0 _ _ rfl rfl
    | 3 => simp [encN, PV.cells] at h1 h2; subst h1; subst h2; exact r3.2 0 _ _ rfl rfl
    | 4 => simp [encN, PV.cells] at h1 h2; subst h1; subst h2; exact r4.2 0 _ _ rfl rfl
    | 5 => simp [encN, PV.cells] at h1 h2; subst h1; subst h2; exact r5.2 0 _ _ rfl rfl
    | i + 6 => simp [encN, PV.cells] at h1

/-- What any value that can be read is. -/
structure Big (v : Vl) : Prop where
  len : v.length ≤ 1152921504606846976
  txt : ∀ n ∈ v, n.s.length ≤ 4611686018427387904 ∧ n.name.length ≤ 4611686018427387904
  nd : ∀ n ∈ v, BigN n

theorem rd_val : Rd Try.prog t_api_Val encV Big := by
  intro H eh w fuel cs x h hw
  obtain ⟨v, ⟨h1, h2⟩, h3⟩ := Rd.slice (sz := 6) u_val rd_node (by kernel_rfl) (by decide) (fun _ => rfl) eh w fuel cs x h hw
  have hb : Try.prog.bytesOf t_api_Node = 64 := by kernel_rfl
  rw [hb, reachBytes] at h1
  refine ⟨v, ⟨by omega, fun n hn => ?_, h2⟩, h3⟩
  have g := h2 n hn
  have g1 := g.name
  have g2 := g.s
  rw [reachBytes] at g1 g2
  exact ⟨by omega, by omega⟩

/-- What any keys that can be read are. -/
structure BigL (l : List Vl) : Prop where
  len : l.length ≤ 1152921504606846976
  all : ∀ v ∈ l, Big v

theorem rd_vals : Rd Try.prog t_L_api_Val encL BigL := by
  intro H eh w fuel cs x h hw
  obtain ⟨l, ⟨h1, h2⟩, h3⟩ := Rd.slice (sz := 1) u_vals rd_val (by kernel_rfl) (by decide) (fun _ => rfl) eh w fuel cs x h hw
  have hb : Try.prog.bytesOf t_api_Val = 24 := by kernel_rfl
  rw [hb, reachBytes] at h1
  exact ⟨l, ⟨by omega, h2⟩, h3⟩

/-- An argument that is a slice. -/
theorem rd_arg {t e : TypeId} {α : Type} {enc : α → PV} {good : α → Prop} (hu : Try.prog.underlying t = some (.slice e)) (hr : Rd Try.prog t enc good) (h1 : ∀ a, (enc a).cells = [enc a]) {H : Type} {eh : TypeId × Value → H} {w : World} {base : Nat} {v : Value} {d : DataW H} {p : List MemPlace}
    (hv : Value.okWide Try.prog w .any base t v) (h : DataW.Trod eh Try.prog w 0 (fun _ => true) true t v d p) (hw : ∀ n ∈ DataW.weights Try.prog t d, n ≤ reachBytes) : ∃ a : α, good a ∧ Rep w (fun _ => True) (enc a) v := by
  obtain ⟨ad, len, cap, rfl⟩ := Go.WideShapes.okWide_slice hu hv
  obtain ⟨fuel, h⟩ := h
  obtain ⟨a, g, r⟩ := hr eh w fuel _ _ h hw
  rw [h1 a] at r
  exact ⟨a, g, r.2 0 _ _ rfl rfl⟩

theorem repL_cons {R : PV → Value → Prop} {p : PV} {ps : List PV} {v : Value} {vs : List Value} (h : R p v) (hs : RepL R ps vs) : RepL R (p :: ps) (v :: vs) :=
  ⟨by simp [hs.1], fun i q u h1 h2 => by
    cases i with
    | zero => simp at h1 h2; subst h1; subst h2; exact h
    | succ i => exact hs.2 i q u (by simpa using h1) (by simpa using h2)⟩

theorem repL_nil {R : PV → Value → Prop} : RepL R [] [] := ⟨rfl, fun i q u h1 => by simp at h1⟩

end Lp

/-! LpL5 -/

namespace Lp
open Go Go.Proofs

set_option maxHeartbeats 4000000
set_option maxRecDepth 20000
set_option linter.unusedSimpArgs false

theorem fl_ge : ∀ G : List (List Int), (∀ g ∈ G, g ≠ []) → G.length ≤ G.flatten.length
  | [], _ => Nat.le_refl _
  | g :: G, h => by
    have := fl_ge G fun g hg => h g (by simp [hg])
    have h1 := List.length_pos_iff.2 (h g (by simp))
    simp only [List.length_cons, List.flatten_cons, List.length_append]
    omega

theorem fl_in : ∀ G : List (List Int), ∀ g ∈ G, g.length ≤ G.flatten.length
  | g :: G, h, hg => by
    simp only [List.flatten_cons, List.length_append]
    rcases List.mem_cons.1 hg with e | e
    · subst e; omega
    · have := fl_in G h e; omega

theorem orderGroups_spec (keys : List Vl) (hb : BigL keys) : FnSpec Try.prog f_loupelaw05_OrderGroups [encL keys] [] (.bool true) [] := by
  have t60 : Int.toNat 60 = 60 := rfl
  have hbl := hb.len
  have hbt : ∀ v ∈ keys, v.length ≤ 1152921504606846976 ∧ ∀ n ∈ v, n.s.length ≤ 4611686018427387904 ∧ n.name.length ≤ 4611686018427387904 := fun v hv => ⟨(hb.all v hv).len, (hb.all v hv).txt⟩
  obtain ⟨f, hf⟩ : ∃ f : Nat, f = 60 := ⟨60, rfl⟩
  refine k_loupelaw05_OrderGroups.pureG (T := tabL Try.prog [(f_louperef02_All, ctrAll), (f_loupelaw05_alive, ctrAlive), (f_order_Groups, (ctrGroups f)), (f_louperef05_Groups, (ctrRefGroups f)), (f_louperef05_Ints, ctrInts)]) 1 hD (kOk_tabL (tabOk_cons ctrAll_ok (tabOk_cons ctrAlive_ok (tabOk_cons (ctrGroups_ok f) (tabOk_cons (ctrRefGroups_ok f) (tabOk_cons ctrInts_ok tabOk_nil)))))) hmix (by decide) fun Q hQ => ?_
  try simp only [F_all]
  cases fa : allB keys 60
  · simp (maxSteps := 400000) only [↓preZ, postZ, coreZ, ↓preU, postU, D_all, F_all, unR, outL, onePV, binS, ↓binS, boundR, ↓boundR, fieldOf, ↓fieldOf, boxR, allocR, newObj, zeroElem, buildSliceR, appendR, setAll, storeR, St.freeze, makeSliceR, minmaxR, makeFuncR, BEq.rfl, reduceIte, reduceCtorEq, Nat.reduceLT, Nat.reduceAdd, Nat.reduceSub, Nat.reduceMul, Nat.reduceBEq, Nat.reduceLeDiff, Int.reduceToNat, Int.reduceLE, hQ, c_loupelaw05_OrderGroups, ↓ctrAll, ↓ctrAlive, t60, fa]
    exact ⟨hbl, hbt⟩
  obtain ⟨hok, hok2, hfew⟩ := allB_ok (by decide) fa
  rw [← hf] at hok hok2 hfew
  have hko : KeysOk f keys := fun v hv => ⟨(hfew v hv).len, (hfew v hv).rt⟩
  have hl60 : keys.length ≤ f := hok.1
  have hlen := sortV_len f keys
  obtain ⟨hg, hpw, hfl⟩ := groupsV_ok hko
  generalize hG : groupsV f keys = G at *
  have hGl : G.length ≤ keys.length := by have := fl_ge G fun g hgm => (hg g hgm).1; rw [hfl] at this; omega
  have hGg : ∀ g ∈ G, g.length ≤ keys.length := fun g hgm => by have := fl_in G g hgm; rw [hfl] at this; omega
  simp (maxSteps := 400000) only [↓preZ, postZ, coreZ, ↓preU, postU, D_all, F_all, unR, outL, onePV, binS, ↓binS, boundR, ↓boundR, fieldOf, ↓fieldOf, boxR, allocR, newObj, zeroElem, buildSliceR, appendR, setAll, storeR, St.freeze, makeSliceR, minmaxR, makeFuncR, BEq.rfl, reduceIte, reduceCtorEq, Nat.reduceLT, Nat.reduceAdd, Nat.reduceSub, Nat.reduceMul, Nat.reduceBEq, Nat.reduceLeDiff, Int.reduceToNat, Int.reduceLE, hQ, c_loupelaw05_OrderGroups, ↓ctrAll, ↓ctrAlive, ↓ctrGroups, ↓ctrRefGroups, t60, fa, hG]
  refine ⟨hbl, hbt, hok, by omega, hok2, hko, by omega, ?_⟩
  refine wpc_loop (fun m S => ∃ i : Nat, i + m = G.length ∧ S = ⟨tmA 36 [(3, encG G), (4, encG G), (5, .int .i64 i)], []⟩) G.length ⟨0, by omega, ?_⟩ ?_
  · simp only [normR, keepR, Nat.reduceAdd, lkR, Nat.reduceBEq, F_all, List.map_nil]
    rfl
  rintro m S ⟨i, him, rfl⟩
  rcases Nat.lt_or_ge i G.length with h | h
  rotate_left 1
  · have hlt : ((i : Int) < (G.length : Int)) = False := eq_false (by omega)
    simp (maxSteps := 400000) only [↓preZ, postZ, coreZ, ↓preU, postU, D_all, F_all, unR, outL, onePV, binS, ↓binS, boundR, ↓boundR, fieldOf, ↓fieldOf, boxR, allocR, newObj, zeroElem, buildSliceR, appendR, setAll, storeR, St.freeze, makeSliceR, minmaxR, makeFuncR, BEq.rfl, reduceIte, reduceCtorEq, Nat.reduceLT, Nat.reduceAdd, Nat.reduceSub, Nat.reduceMul, Nat.reduceBEq, Nat.reduceLeDiff, Int.reduceToNat, Int.reduceLE, hQ, hlt, ↓ctrAlive]
  have hlt : ((i : Int) < (G.length : Int)) = True := eq_true (by omega)
  have hgi := List.getElem?_eq_getElem h
  have hgl := hGg _ (List.getElem_mem h)
  have zi : (0 ≤ (i : Int)) = True := eq_true (by omega)
  generalize hgg : G[i] = g at hgi hgl
  have hr : decide (g = g) = true := decide_eq_true rfl
  simp (maxSteps := 400000) only [↓preZ, postZ, coreZ, ↓preU, postU, D_all, F_all, unR, outL, onePV, binS, ↓binS, boundR, ↓boundR, fieldOf, ↓fieldOf, boxR, allocR, newObj, zeroElem, buildSliceR, appendR, setAll, storeR, St.freeze, makeSliceR, minmaxR, makeFuncR, BEq.rfl, reduceIte, reduceCtorEq, Nat.reduceLT, Nat.reduceAdd, Nat.reduceSub, Nat.reduceMul, Nat.reduceBEq, Nat.reduceLeDiff, Int.reduceToNat, Int.reduceLE, hQ, hlt, zi, hgi, ↓ctrInts, hr]
  exact ⟨by omega, by omega, ⟨by omega, by omega⟩, m - 1, by omega, i + 1, by omega, by simp⟩
end Lp
