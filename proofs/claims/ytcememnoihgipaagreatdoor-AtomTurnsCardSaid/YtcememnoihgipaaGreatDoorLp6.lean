/-
  Part 6 of what the statement rests on: LpV5, LpLay, LpLib, LpD7, LpD8, LpE1, LpD4, LpD5, LpV10, LpX1, LpD6, LpD9, LpD10, LpD11, LpD12, LpE2, LpE3, LpE4, LpE5, LpE6, LpE7, LpE8, LpE9, LpRd, LpMA1, LpMA2, LpTie, LpRdA, LpRdI, LpJn. No condition.
-/
import Derived.Test.YtcememnoihgipaaGreatDoorLp5
import Derived.Lib.ValidLaws
import Derived.Shelf.Strings.FuncGrows
import Derived.Lib.TrimByte
import Derived.Shelf.SlGeneric
import Derived.Ground.NamesProg
import Derived.Ground.Names8Prog
import Derived.Shelf.Strings.Trim
import Derived.Shelf.Sort.Plain
import Derived.Shelf.Slices.In.SortNone
import Derived.Shelf.Unicode.ValidAny
import Derived.Shelf.Spec.SlicesGrow
import Derived.Shelf.Strings.Repeat
import Derived.Test.YtcememnoihgipaaGreatDoorProg
import Derived.Lib.LaidIn
import Derived.Lib.LaidU8T
import Derived.Deep.DeepHandedRow
import Derived.Deep.DeepWitnessRowRef
import Derived.ProofKit
import Derived.SizedLaws
import Derived.JoinedCond
import Derived.OpenShut
import Derived.JoinedOf

set_option linter.all false

/-! LpV5 -/

namespace Lp
open Go Go.Lib
set_option maxRecDepth 100000
set_option maxHeartbeats 2000000
def qoj (b0 : Nat) : Bool :=
  decide (b0 < 128) || (firstT b0 % 8 == 1 && (decide (b0 < 194) || decide (245 ≤ b0))) || (firstT b0 % 8 == 2 && accLo (firstT b0 / 16) == 128 && accHi (firstT b0 / 16) == 191 && decide (194 ≤ b0) && decide (b0 < 224)) ||
    (firstT b0 % 8 == 3 && accLo (firstT b0 / 16) == (if b0 = 224 then 160 else 128) && accHi (firstT b0 / 16) == (if b0 = 237 then 159 else 191) && decide (224 ≤ b0) && decide (b0 < 240)) ||
    (firstT b0 % 8 == 4 && accLo (firstT b0 / 16) == (if b0 = 240 then 144 else 128) && accHi (firstT b0 / 16) == (if b0 = 244 then 143 else 191) && decide (240 ≤ b0) && decide (b0 < 245))
theorem qj7 : (List.range 256).all qoj = true := by decide
theorem qj8 (b0 : Nat) (h : b0 < 256) (h' : 128 ≤ b0) : (firstT b0 % 8 = 1 ∧ (b0 < 194 ∨ 245 ≤ b0)) ∨ (firstT b0 % 8 = 2 ∧ accLo (firstT b0 / 16) = 128 ∧ accHi (firstT b0 / 16) = 191 ∧ 194 ≤ b0 ∧ b0 < 224) ∨
    (firstT b0 % 8 = 3 ∧ accLo (firstT b0 / 16) = (if b0 = 224 then 160 else 128) ∧ accHi (firstT b0 / 16) = (if b0 = 237 then 159 else 191) ∧ 224 ≤ b0 ∧ b0 < 240) ∨
    (firstT b0 % 8 = 4 ∧ accLo (firstT b0 / 16) = (if b0 = 240 then 144 else 128) ∧ accHi (firstT b0 / 16) = (if b0 = 244 then 143 else 191) ∧ 240 ≤ b0 ∧ b0 < 245) := by
  have := List.all_eq_true.1 qj7 b0 (List.mem_range.2 h)
  simp only [qoj, Bool.or_eq_true, Bool.and_eq_true, decide_eq_true_eq, beq_iff_eq, and_assoc] at this
  rcases this with (((g | g) | g) | g) | g
  · omega
  · exact .inl g
  · exact .inr (.inl g)
  · exact .inr (.inr (.inl g))
  · exact .inr (.inr (.inr g))
theorem qns (c : UInt8) (t : List UInt8) : utf (c :: t) = (runeN (c :: t) != 0 && utf ((c :: t).drop (runeN (c :: t)))) := by
  unfold utf
  rw [List.length_cons, utfF]
  simp only [List.isEmpty_cons, Bool.false_or]
  by_cases h : runeN (c :: t) = 0
  · simp [h]
  · congr 1
    exact q9j _ _ _ (by simp only [List.length_drop, List.length_cons]; omega) (Nat.le_refl _)
theorem u8n (c : UInt8) (n : Nat) (h : n < 256) : c = UInt8.ofNat n ↔ c.toNat = n := by
  constructor
  · rintro rfl; simp [UInt8.toNat_ofNat']; omega
  · intro e; rw [← e]; simp
theorem qj9 (c : UInt8) (t : List UInt8) (h : 128 ≤ c.toNat) :
    checkN (t.length + 1) (t.getD 0 0).toNat (t.getD 1 0).toNat (t.getD 2 0).toNat (firstT c.toNat % 8) (accLo (firstT c.toNat / 16)) (accHi (firstT c.toNat / 16)) =
      if runeN (c :: t) = 0 then none else some (runeN (c :: t)) := by
  have e1 : (c < 128) ↔ c.toNat < 128 := UInt8.lt_iff_toNat_lt
  have e2 : (194 ≤ c) ↔ 194 ≤ c.toNat := UInt8.le_iff_toNat_le
  have e3 : (c < 224) ↔ c.toNat < 224 := UInt8.lt_iff_toNat_lt
  have e4 : (224 ≤ c) ↔ 224 ≤ c.toNat := UInt8.le_iff_toNat_le
  have e5 : (c < 240) ↔ c.toNat < 240 := UInt8.lt_iff_toNat_lt
  have e6 : (240 ≤ c) ↔ 240 ≤ c.toNat := UInt8.le_iff_toNat_le
  have e7 : (c < 245) ↔ c.toNat < 245 := UInt8.lt_iff_toNat_lt
  have e8 : c = 224 ↔ c.toNat = 224 := u8n c 224 (by decide)
  have e9 : c = 237 ↔ c.toNat = 237 := u8n c 237 (by decide)
  have ea : c = 240 ↔ c.toNat = 240 := u8n c 240 (by decide)
  have eb : c = 244 ↔ c.toNat = 244 := u8n c 244 (by decide)
  have hc : ∀ i, contB t i = true ↔ i < t.length ∧ 128 ≤ (t.getD i 0).toNat ∧ (t.getD i 0).toNat < 192 := by
    intro i
    unfold contB
    cases hg : t[i]? with
    | none =>
      have := List.getElem?_eq_none_iff.1 hg
      simp; omega
    | some d =>
      have hl := (List.getElem?_eq_some_iff.1 hg).1
      have hd : t.getD i 0 = d := by simp [List.getD, hg]
      rw [hd]
      simp only [Bool.and_eq_true, decide_eq_true_eq]
      have x1 : (128 ≤ d) ↔ 128 ≤ d.toNat := UInt8.le_iff_toNat_le
      have x2 : (d < 192) ↔ d.toNat < 192 := UInt8.lt_iff_toNat_lt
      rw [x1, x2]
      exact ⟨fun g => ⟨hl, g⟩, fun g => g.2⟩
  have hh : t.headD 0 = t.getD 0 0 := by cases t <;> rfl
  have f1 : (t.getD 0 0 < 160) ↔ (t.getD 0 0).toNat < 160 := UInt8.lt_iff_toNat_lt
  have f2 : (160 ≤ t.getD 0 0) ↔ 160 ≤ (t.getD 0 0).toNat := UInt8.le_iff_toNat_le
  have f3 : (t.getD 0 0 < 144) ↔ (t.getD 0 0).toNat < 144 := UInt8.lt_iff_toNat_lt
  have f4 : (144 ≤ t.getD 0 0) ↔ 144 ≤ (t.getD 0 0).toNat := UInt8.le_iff_toNat_le
  simp only [runeN, e1, e2, e3, e4, e5, e6, e7, e8, e9, ea, eb, hc, hh, f1, f2, f3, f4]
  have hn := c.toNat_lt
  generalize c.toNat = n at *
  generalize (t.getD 0 0).toNat = b1 at *
  generalize (t.getD 1 0).toNat = b2 at *
  generalize (t.getD 2 0).toNat = b3 at *
  generalize t.length = L at *
  clear e1 e2 e3 e4 e5 e6 e7 e8 e9 ea eb hc f1 f2 f3 f4 hh
  obtain ⟨R, hR⟩ : ∃ R, (if n < 128 then 1 else if 194 ≤ n ∧ n < 224 ∧ 0 < L ∧ 128 ≤ b1 ∧ b1 < 192 then 2
    else if 224 ≤ n ∧ n < 240 ∧ (0 < L ∧ 128 ≤ b1 ∧ b1 < 192) ∧ 1 < L ∧ 128 ≤ b2 ∧ b2 < 192 then (if n = 224 ∧ b1 < 160 ∨ n = 237 ∧ 160 ≤ b1 then 0 else 3)
    else if 240 ≤ n ∧ n < 245 ∧ (0 < L ∧ 128 ≤ b1 ∧ b1 < 192) ∧ (1 < L ∧ 128 ≤ b2 ∧ b2 < 192) ∧ 2 < L ∧ 128 ≤ b3 ∧ b3 < 192 then (if n = 240 ∧ b1 < 144 ∨ n = 244 ∧ 144 ≤ b1 then 0 else 4) else 0) = R := ⟨_, rfl⟩
  rw [hR]
  rw [if_neg (by omega)] at hR
  rcases qj8 n hn h with ⟨k1, k2⟩ | ⟨k1, k2, k3, k4, k5⟩ | ⟨k1, k2, k3, k4, k5⟩ | ⟨k1, k2, k3, k4, k5⟩
  · rw [k1]
    rw [if_neg (by omega), if_neg (by omega), if_neg (by omega)] at hR
    subst hR; rfl
  · rw [k1, k2, k3]
    simp only [checkN, if_true]
    by_cases g : 0 < L ∧ 128 ≤ b1 ∧ b1 < 192
    · rw [if_pos ⟨k4, k5, g⟩] at hR
      subst hR
      rw [if_neg (by omega)]; rfl
    · rw [if_neg (by omega), if_neg (by omega), if_neg (by omega)] at hR
      subst hR
      rw [if_pos (by omega)]; rfl
  · rw [k1, k2, k3]
    simp only [checkN, Nat.reduceEqDiff, if_false, if_true]
    rw [if_neg (by omega)] at hR
    by_cases g : (0 < L ∧ 128 ≤ b1 ∧ b1 < 192) ∧ 1 < L ∧ 128 ≤ b2 ∧ b2 < 192
    · rw [if_pos ⟨k4, k5, g⟩] at hR
      by_cases g2 : n = 224 ∧ b1 < 160 ∨ n = 237 ∧ 160 ≤ b1
      · rw [if_pos g2] at hR
        subst hR
        rw [if_pos (by split <;> split <;> omega)]; rfl
      · rw [if_neg g2] at hR
        subst hR
        rw [if_neg (by split <;> split <;> omega)]; rfl
    · rw [if_neg (fun x => g x.2.2), if_neg (by omega)] at hR
      subst hR
      rw [if_pos (by split <;> split <;> omega)]; rfl
  · rw [k1, k2, k3]
    simp only [checkN, Nat.reduceEqDiff, if_false, if_true]
    rw [if_neg (by omega), if_neg (by omega)] at hR
    by_cases g : (0 < L ∧ 128 ≤ b1 ∧ b1 < 192) ∧ (1 < L ∧ 128 ≤ b2 ∧ b2 < 192) ∧ 2 < L ∧ 128 ≤ b3 ∧ b3 < 192
    · rw [if_pos ⟨k4, k5, g⟩] at hR
      by_cases g2 : n = 240 ∧ b1 < 144 ∨ n = 244 ∧ 144 ≤ b1
      · rw [if_pos g2] at hR
        subst hR
        rw [if_pos (by split <;> split <;> omega)]; rfl
      · rw [if_neg g2] at hR
        subst hR
        rw [if_neg (by split <;> split <;> omega)]; rfl
    · rw [if_neg (fun x => g x.2.2)] at hR
      subst hR
      rw [if_pos (by split <;> split <;> omega)]; rfl
theorem q87 : ∀ (k : Nat) (l : List UInt8), l.length ≤ k → validD l = utf l
  | _, [], _ => rfl
  | 0, _ :: _, h => by simp at h
  | k + 1, c :: t, h => by
    simp only [List.length_cons] at h
    rw [qns]
    by_cases hc : c.toNat < 128
    · have hr : runeN (c :: t) = 1 := by
        simp only [runeN]; rw [if_pos (UInt8.lt_iff_toNat_lt.2 hc)]
      rw [validD_cons c t hc, hr, q87 k t (by omega)]; simp
    · rw [validD_lead _ (by simp) (by simpa using hc)]
      have e := qj9 c t (by omega)
      simp only [List.getD_cons_zero, List.getD_cons_succ, List.length_cons] at e ⊢
      rw [e]
      by_cases h0 : runeN (c :: t) = 0
      · rw [if_pos h0, h0]; rfl
      · rw [if_neg h0]
        have : ((c :: t).drop (runeN (c :: t))).length ≤ k := by simp only [List.length_drop, List.length_cons]; omega
        rw [show (runeN (c :: t) != 0) = true by simpa using h0, Bool.true_and]
        exact q87 k _ this
theorem qme (l : List UInt8) : validD l = utf l := q87 _ l (Nat.le_refl _)
def figP (x : Nat) : Bool := decide (48 ≤ x) && decide (x ≤ 57)
theorem qau (n b0 b1 b2 b3 : Nat) (h : (decodeN n b0 b1 b2 b3).1 < 128) : b0 < 128 ∧ decodeN n b0 b1 b2 b3 = (b0, 1) := by
  unfold decodeN at *
  split at h
  · rename_i h0; rw [if_pos h0]; exact ⟨h0, rfl⟩
  · exfalso
    repeat' split at h
    all_goals (simp at h; try omega)
theorem qav (n b0 b1 b2 b3 : Nat) (h : b0 < 128) : decodeN n b0 b1 b2 b3 = (b0, 1) := by unfold decodeN; rw [if_pos h]
theorem qd9 {x : Nat} (h : figP x = true) : x < 128 := by simp [figP] at h; omega
def qda (l : List UInt8) (i : Nat) : Prop := ∀ j, i ≤ j → j < l.length → figP (l.getD j 0).toNat = true
theorem qhz (s : ByteArray) : ∀ (f pos : Nat), s.data.toList.length - pos ≤ f → (idxFuncFrom figP false s f pos = -1 ↔ qda s.data.toList pos)
  | 0, pos, h => by
    simp only [idxFuncFrom, true_iff]
    intro j h1 h2; omega
  | f + 1, pos, h => by
    unfold idxFuncFrom
    rw [size_eq]
    split
    · rename_i hp
      rw [decode_N]
      generalize hd : decodeN _ _ _ _ _ = d
      split
      · rename_i hf
        have : ¬ qda s.data.toList pos := fun hg => by
          have g := hg pos (Nat.le_refl _) hp
          rw [qav _ _ _ _ _ (qd9 g)] at hd
          rw [← hd] at hf
          simp only at hf
          rw [g] at hf; cases hf
        simp only [this, iff_false]; omega
      · rename_i hf
        simp only [Bool.not_eq_false] at hf
        have hlt := qd9 hf
        rw [← hd] at hlt
        obtain ⟨g1, g2⟩ := qau _ _ _ _ _ hlt
        rw [g2] at hd
        subst hd
        rw [qhz s f (pos + 1) (by omega)]
        constructor
        · intro hh j h1 h2
          rcases Nat.eq_or_lt_of_le h1 with rfl | h1
          · exact hf
          · exact hh j h1 h2
        · intro hh j h1 h2; exact hh j (by omega) h2
    · rename_i hp
      simp only [true_iff]
      intro j h1 h2; omega
theorem qbg (l : List UInt8) (h : (decodeLastL l).1 < 128) : l ≠ [] ∧ (l.getD (l.length - 1) 0).toNat < 128 ∧ decodeLastL l = ((l.getD (l.length - 1) 0).toNat, 1) := by
  unfold decodeLastL at *
  split at h
  · simp [Utf8.runeError] at h
  · rename_i hne
    rw [if_neg hne]
    split at h
    · rename_i h1; rw [if_pos h1]; exact ⟨hne, h1, rfl⟩
    · rename_i h1
      exfalso
      simp only at h
      split at h
      · rename_i h2
        rw [decodeL_N] at h h2
        obtain ⟨g1, g2⟩ := qau _ _ _ _ _ h
        rw [g2] at h2
        simp only [getD_dropU] at g1
        have : lastStart l + 0 = l.length - 1 := by omega
        rw [this] at g1
        exact h1 g1
      · simp [Utf8.runeError] at h
theorem qf1 (s : ByteArray) : ∀ (f i : Nat), i ≤ f → i ≤ s.data.toList.length → lastIdxFuncFrom figP false s f i = -1 → ∀ j, j < i → figP (s.data.toList.getD j 0).toNat = true
  | 0, i, h, _, _, j, hj => by omega
  | f + 1, i, h, hi, hx, j, hj => by
    unfold lastIdxFuncFrom at hx
    rw [if_pos (by omega)] at hx
    split at hx
    · omega
    · rename_i hf
      simp only [Bool.not_eq_false] at hf
      obtain ⟨g0, g1, g2⟩ := qbg _ (qd9 hf)
      rw [g2] at hf hx
      have hl : (s.data.toList.take i).length = i := by rw [List.length_take]; omega
      rw [hl] at hf hx
      have e : (s.data.toList.take i).getD (i - 1) 0 = s.data.toList.getD (i - 1) 0 := by
        simp only [List.getD, List.getElem?_take]; rw [if_pos (by omega)]
      rw [e] at hf
      rcases Nat.lt_or_ge j (i - 1) with h1 | h1
      · exact qf1 s f (i - 1) (by omega) (by omega) hx j h1
      · have : j = i - 1 := by omega
        subst this; exact hf
theorem qnt (l : List UInt8) : figs l = true ↔ qda l 0 := by
  unfold figs qda
  rw [List.all_eq_true]
  have key : ∀ c : UInt8, (decide (48 ≤ c) && decide (c ≤ 57)) = figP c.toNat := fun c => by
    have x1 : (48 ≤ c) ↔ 48 ≤ c.toNat := UInt8.le_iff_toNat_le
    have x2 : (c ≤ 57) ↔ c.toNat ≤ 57 := UInt8.le_iff_toNat_le
    simp only [figP, x1, x2]
  constructor
  · intro h j _ hj
    rw [← key]
    have : l.getD j 0 = l[j] := by simp [List.getD, hj]
    rw [this]
    exact h _ (List.getElem_mem hj)
  · intro h c hc
    obtain ⟨j, hj, rfl⟩ := List.mem_iff_getElem.1 hc
    rw [key]
    have : l.getD j 0 = l[j] := by simp [List.getD, hj]
    rw [← this]
    exact h j (Nat.zero_le _) hj
theorem qaw (p : Nat → Bool) (truth : Bool) (s : ByteArray) : ∀ (f i : Nat), i ≤ s.size → lastIdxFuncFrom p truth s f i = -1 ∨ (0 ≤ lastIdxFuncFrom p truth s f i ∧ lastIdxFuncFrom p truth s f i < i)
  | 0, _, _ => .inl rfl
  | f + 1, i, hi => by
    unfold lastIdxFuncFrom
    split
    · rename_i h0
      have hk := decodeLastL_width (s.data.toList.take i) (by rw [List.length_take, ← size_eq]; omega)
      rw [List.length_take, ← size_eq, Nat.min_eq_left hi] at hk
      split
      · exact .inr ⟨by omega, by omega⟩
      · rcases qaw p truth s f (i - (decodeLastL (s.data.toList.take i)).2) (by omega) with h | ⟨h1, h2⟩
        · exact .inl h
        · exact .inr ⟨h1, by omega⟩
    · exact .inl rfl
theorem qja (l : List UInt8) : (trimF figP ⟨⟨l⟩⟩ = ⟨⟨[]⟩⟩) ↔ figs l = true := by
  have hi := qhz ⟨⟨l⟩⟩ l.length 0 (by simp)
  rw [qnt, ← (show (({ data := { toList := l } } : ByteArray).data.toList) = l from rfl), ← hi]
  have hidx : idxFunc figP false ⟨⟨l⟩⟩ = idxFuncFrom figP false ⟨⟨l⟩⟩ l.length 0 := rfl
  rw [← hidx]
  unfold trimF trimLeftF
  constructor
  · intro h
    refine Classical.byContradiction fun hne => ?_
    rw [if_neg hne] at h
    have hr := idxFunc_range figP false ⟨⟨l⟩⟩
    obtain ⟨r1, r2⟩ := hr.resolve_left hne
    rw [size_eq] at r2
    generalize hk : (idxFunc figP false ⟨⟨l⟩⟩).toNat = k at *
    have hkl : k < l.length := by simp at r2; omega
    rw [extract_from] at h
    simp only at h
    -- the rune at k is no figure
    have hnd : figP (l.getD k 0).toNat = false := by
      have key : ∀ f pos, idxFuncFrom figP false ⟨⟨l⟩⟩ f pos ≠ -1 → figP (Utf8.decode ⟨⟨l⟩⟩ (idxFuncFrom figP false ⟨⟨l⟩⟩ f pos).toNat).1 = false := by
        intro f
        induction f with
        | zero => intro pos h; exact absurd rfl h
        | succ f ih =>
          intro pos h
          unfold idxFuncFrom at h ⊢
          split at h
          · rename_i hp
            rw [if_pos hp]
            split at h
            · rename_i hf; rw [if_pos hf]; simpa using hf
            · rename_i hf; rw [if_neg hf]; exact ih _ h
          · exact absurd rfl h
      have := key _ _ hne
      rw [show (⟨⟨l⟩⟩ : ByteArray).size = l.length from rfl, ← hidx, hk, decode_N] at this
      cases hb : figP (l.getD k 0).toNat with
      | false => rfl
      | true =>
        have hlow := qd9 hb
        rw [qav _ _ _ _ _ hlow] at this
        simp only at this
        rw [hb] at this; cases this
    unfold trimRightF at h
    rw [extract_upto] at h
    have hlen := congrArg (fun b : ByteArray => b.data.toList.length) h
    simp only [List.length_take, List.length_drop, List.length_nil] at hlen
    have hz : rightEndF figP ⟨(l.drop k).toArray⟩ = 0 := by omega
    unfold rightEndF at hz
    have hlt := qaw figP false ⟨(l.drop k).toArray⟩ (l.drop k).length (l.drop k).length (by rw [size_eq]; exact Nat.le_refl _)
    have hli : lastIdxFunc figP false ⟨(l.drop k).toArray⟩ = lastIdxFuncFrom figP false ⟨(l.drop k).toArray⟩ (l.drop k).length (l.drop k).length := rfl
    split at hz
    · rename_i h0
      rw [hli] at h0 hz
      obtain ⟨h1, h2⟩ := hlt.resolve_left (by omega)
      have h3 : 1 ≤ (decodeGoB ((⟨(l.drop k).toArray⟩ : ByteArray).extract (lastIdxFuncFrom figP false ⟨(l.drop k).toArray⟩ (l.drop k).length (l.drop k).length).toNat (⟨(l.drop k).toArray⟩ : ByteArray).size)).2 := by
        unfold decodeGoB
        rw [if_neg]
        · exact width_pos _ _
        · rw [extract_from, size_eq]
          simp only [List.length_drop] at h2 ⊢
          omega
      omega
    · rename_i h0
      rw [hli] at h0
      have h1 := hlt.resolve_right (by omega)
      have := qf1 ⟨(l.drop k).toArray⟩ _ _ (Nat.le_refl _) (Nat.le_refl _) h1 0 (by rw [List.length_drop]; omega)
      simp only [getD_dropU] at this
      rw [Nat.add_zero, hnd] at this
      cases this
  · intro h
    rw [if_pos h]
    rfl
theorem q4x {α : Type} (p : α → Bool) (l : List α) : (l.dropWhile p).length ≤ l.length := (List.dropWhile_suffix p).length_le
theorem qbh {α : Type} (p : α → Bool) : ∀ l : List α, l.dropWhile p = l ↔ (∀ x, l.head? = some x → p x = false)
  | [] => by simp
  | x :: t => by
    rw [List.dropWhile_cons]
    split
    · rename_i h
      constructor
      · intro e
        have := congrArg List.length e
        have h2 := q4x p t
        simp at this; omega
      · intro g; rw [g x rfl] at h; cases h
    · rename_i h; simpa using h
theorem qjb (l : List UInt8) (c : UInt8) : trimB l c = l ↔ l.head? ≠ some c ∧ l.getLast? ≠ some c := by
  have h1 : ∀ m : List UInt8, (m.dropWhile (· == c) = m) ↔ m.head? ≠ some c := fun m => by
    rw [qbh]
    constructor
    · intro h e; simpa using h c e
    · intro h x hx; rw [hx] at h; simpa using h
  unfold trimB trimLeftB
  have hlen : (trimRightB l c).length ≤ l.length := by
    unfold trimRightB
    have := q4x (· == c) l.reverse
    simpa using this
  have hr : trimRightB l c = l ↔ l.getLast? ≠ some c := by
    unfold trimRightB
    rw [List.reverse_eq_iff, h1, List.head?_reverse]
  constructor
  · intro h
    have h2 := q4x (· == c) (trimRightB l c)
    have h3 := congrArg List.length h
    have h4 : trimRightB l c = l := by
      unfold trimRightB at *
      have := List.dropWhile_suffix (l := l.reverse) (p := (· == c))
      have e := this.eq_of_length (by simp at *; omega)
      rw [e, List.reverse_reverse]
    rw [h4] at h
    exact ⟨(h1 l).1 h, hr.1 h4⟩
  · rintro ⟨g1, g2⟩
    rw [hr.2 g2]; exact (h1 l).2 g1
end Lp

/-! LpLay -/

namespace Go.Proofs
open Go.Shelf
def Tryz.lays160_ren : Go.Shelf.Ren := ⟨fun | 160 => 261 | 232 => 250 | 231 => 246 | 227 => 247 | 234 => 251 | 233 => 248 | 236 => 252 | 235 => 249 | 228 => 284 | 271 => 287 | 151 => 286 | 197 => 285 | 120 => 316 | 152 => 315 | 260 => 314 | 137 => 324 | 119 => 325 | 224 => 326 | 225 => 327 | 217 => 331 | 266 => 334 | n => n, fun | 9 => 9 | 4 => 4 | 3 => 3 | 5 => 5 | 117 => 238 | 116 => 237 | 0 => 0 | 124 => 241 | 21 => 21 | 105 => 271 | 46 => 178 | 119 => 219 | 139 => 222 | 138 => 221 | n => n, fun | 3 => 0 | 4 => 1 | n => n⟩
theorem Tryz.lays160 : Go.Proofs.Lays.n160 Tryz.prog Tryz.lays160_ren := {
  mixed := by kernel_rfl
  f119 := Tryz.func325.trans (congrArg some (by kernel_rfl))
  f120 := Tryz.func316.trans (congrArg some (by kernel_rfl))
  f137 := Tryz.func324.trans (congrArg some (by kernel_rfl))
  f151 := Tryz.func286.trans (congrArg some (by kernel_rfl))
  f152 := Tryz.func315.trans (congrArg some (by kernel_rfl))
  f160 := Tryz.func261.trans (congrArg some (by kernel_rfl))
  f197 := Tryz.func285.trans (congrArg some (by kernel_rfl))
  f217 := Tryz.func331.trans (congrArg some (by kernel_rfl))
  f224 := Tryz.func326.trans (congrArg some (by kernel_rfl))
  f225 := Tryz.func327.trans (congrArg some (by kernel_rfl))
  f227 := Tryz.func247.trans (congrArg some (by kernel_rfl))
  f228 := Tryz.func284.trans (congrArg some (by kernel_rfl))
  f231 := Tryz.func246.trans (congrArg some (by kernel_rfl))
  f232 := Tryz.func250.trans (congrArg some (by kernel_rfl))
  f233 := Tryz.func248.trans (congrArg some (by kernel_rfl))
  f234 := Tryz.func251.trans (congrArg some (by kernel_rfl))
  f235 := Tryz.func249.trans (congrArg some (by kernel_rfl))
  f236 := Tryz.func252.trans (congrArg some (by kernel_rfl))
  f260 := Tryz.func314.trans (congrArg some (by kernel_rfl))
  f266 := Tryz.func334.trans (congrArg some (by kernel_rfl))
  f271 := Tryz.func287.trans (congrArg some (by kernel_rfl))
  t0 := Tryz.underlying0
  a0 := Tryz.isAgg0
  z0 := Tryz.sizeOf0
  v0 := Tryz.zeroValue0
  t3 := Tryz.underlying3
  a3 := Tryz.isAgg3
  z3 := Tryz.sizeOf3
  v3 := Tryz.zeroValue3
  t4 := Tryz.underlying4
  a4 := Tryz.isAgg4
  z4 := Tryz.sizeOf4
  v4 := Tryz.zeroValue4
  t5 := Tryz.underlying5
  a5 := Tryz.isAgg5
  z5 := Tryz.sizeOf5
  v5 := Tryz.zeroValue5
  t9 := Tryz.underlying9
  a9 := Tryz.isAgg9
  z9 := Tryz.sizeOf9
  v9 := Tryz.zeroValue9
  t21 := Tryz.underlying21
  a21 := Tryz.isAgg21
  z21 := Tryz.sizeOf21
  v21 := Tryz.zeroValue21
  t46 := Tryz.underlying178
  a46 := Tryz.isAgg178
  z46 := Tryz.sizeOf178
  v46 := Tryz.zeroValue178
  t105 := Tryz.underlying271
  a105 := Tryz.isAgg271
  z105 := Tryz.sizeOf271
  v105 := Tryz.zeroValue271
  t116 := Tryz.underlying237
  a116 := Tryz.isAgg237
  z116 := Tryz.sizeOf237
  t117 := Tryz.underlying238
  a117 := Tryz.isAgg238
  z117 := Tryz.sizeOf238
  v117 := Tryz.zeroValue238
  t119 := Tryz.underlying219
  a119 := Tryz.isAgg219
  z119 := Tryz.sizeOf219
  t124 := Tryz.underlying241
  a124 := Tryz.isAgg241
  z124 := Tryz.sizeOf241
  v124 := Tryz.zeroValue241
  t138 := Tryz.underlying221
  a138 := Tryz.isAgg221
  z138 := Tryz.sizeOf221
  v138 := Tryz.zeroValue221
  t139 := Tryz.underlying222
  a139 := Tryz.isAgg222
  z139 := Tryz.sizeOf222
  v139 := Tryz.zeroValue222
  g3 := by kernel_rfl
  g4 := by kernel_rfl }
def Tryz.lays196_ren : Go.Shelf.Ren := ⟨fun | 196 => 166 | 259 => 222 | n => n, fun | 9 => 9 | 4 => 4 | 3 => 3 | 5 => 5 | 12 => 12 | 119 => 219 | 0 => 0 | 46 => 178 | 139 => 222 | 138 => 221 | 53 => 245 | n => n, fun | 3 => 0 | 4 => 1 | n => n⟩
theorem Tryz.lays196 : Go.Proofs.Lays.n196 Tryz.prog Tryz.lays196_ren := {
  mixed := by kernel_rfl
  f196 := Tryz.func166.trans (congrArg some (by kernel_rfl))
  f259 := Tryz.func222.trans (congrArg some (by kernel_rfl))
  t0 := Tryz.underlying0
  a0 := Tryz.isAgg0
  z0 := Tryz.sizeOf0
  v0 := Tryz.zeroValue0
  t3 := Tryz.underlying3
  a3 := Tryz.isAgg3
  z3 := Tryz.sizeOf3
  v3 := Tryz.zeroValue3
  t4 := Tryz.underlying4
  a4 := Tryz.isAgg4
  z4 := Tryz.sizeOf4
  v4 := Tryz.zeroValue4
  t5 := Tryz.underlying5
  a5 := Tryz.isAgg5
  z5 := Tryz.sizeOf5
  v5 := Tryz.zeroValue5
  t9 := Tryz.underlying9
  a9 := Tryz.isAgg9
  z9 := Tryz.sizeOf9
  v9 := Tryz.zeroValue9
  t12 := Tryz.underlying12
  a12 := Tryz.isAgg12
  z12 := Tryz.sizeOf12
  v12 := Tryz.zeroValue12
  t46 := Tryz.underlying178
  a46 := Tryz.isAgg178
  z46 := Tryz.sizeOf178
  v46 := Tryz.zeroValue178
  t53 := Tryz.underlying245
  a53 := Tryz.isAgg245
  z53 := Tryz.sizeOf245
  v53 := Tryz.zeroValue245
  t119 := Tryz.underlying219
  a119 := Tryz.isAgg219
  z119 := Tryz.sizeOf219
  t138 := Tryz.underlying221
  a138 := Tryz.isAgg221
  z138 := Tryz.sizeOf221
  v138 := Tryz.zeroValue221
  t139 := Tryz.underlying222
  a139 := Tryz.isAgg222
  z139 := Tryz.sizeOf222
  v139 := Tryz.zeroValue222
  g3 := by kernel_rfl
  g4 := by kernel_rfl }
def Tryz.lays237_ren : Go.Shelf.Ren := ⟨fun | 237 => 244 | 272 => 283 | 238 => 282 | 315 => 313 | 273 => 312 | 197 => 285 | 271 => 287 | 260 => 314 | 120 => 316 | n => n, fun | 9 => 9 | 40 => 234 | 4 => 4 | 3 => 3 | 105 => 271 | 21 => 21 | 0 => 0 | 5 => 5 | 119 => 219 | 46 => 178 | 139 => 222 | 138 => 221 | n => n, fun | 3 => 0 | 4 => 1 | n => n⟩
theorem Tryz.lays237 : Go.Proofs.Lays.n237 Tryz.prog Tryz.lays237_ren := {
  mixed := by kernel_rfl
  f120 := Tryz.func316.trans (congrArg some (by kernel_rfl))
  f197 := Tryz.func285.trans (congrArg some (by kernel_rfl))
  f237 := Tryz.func244.trans (congrArg some (by kernel_rfl))
  f238 := Tryz.func282.trans (congrArg some (by kernel_rfl))
  f260 := Tryz.func314.trans (congrArg some (by kernel_rfl))
  f271 := Tryz.func287.trans (congrArg some (by kernel_rfl))
  f272 := Tryz.func283.trans (congrArg some (by kernel_rfl))
  f273 := Tryz.func312.trans (congrArg some (by kernel_rfl))
  f315 := Tryz.func313.trans (congrArg some (by kernel_rfl))
  t0 := Tryz.underlying0
  a0 := Tryz.isAgg0
  z0 := Tryz.sizeOf0
  v0 := Tryz.zeroValue0
  t3 := Tryz.underlying3
  a3 := Tryz.isAgg3
  z3 := Tryz.sizeOf3
  v3 := Tryz.zeroValue3
  t4 := Tryz.underlying4
  a4 := Tryz.isAgg4
  z4 := Tryz.sizeOf4
  v4 := Tryz.zeroValue4
  t5 := Tryz.underlying5
  a5 := Tryz.isAgg5
  z5 := Tryz.sizeOf5
  v5 := Tryz.zeroValue5
  t9 := Tryz.underlying9
  a9 := Tryz.isAgg9
  z9 := Tryz.sizeOf9
  v9 := Tryz.zeroValue9
  t21 := Tryz.underlying21
  a21 := Tryz.isAgg21
  z21 := Tryz.sizeOf21
  v21 := Tryz.zeroValue21
  t40 := Tryz.underlying234
  a40 := Tryz.isAgg234
  z40 := Tryz.sizeOf234
  v40 := Tryz.zeroValue234
  t46 := Tryz.underlying178
  a46 := Tryz.isAgg178
  z46 := Tryz.sizeOf178
  v46 := Tryz.zeroValue178
  t105 := Tryz.underlying271
  a105 := Tryz.isAgg271
  z105 := Tryz.sizeOf271
  v105 := Tryz.zeroValue271
  t119 := Tryz.underlying219
  a119 := Tryz.isAgg219
  z119 := Tryz.sizeOf219
  t138 := Tryz.underlying221
  a138 := Tryz.isAgg221
  z138 := Tryz.sizeOf221
  v138 := Tryz.zeroValue221
  t139 := Tryz.underlying222
  a139 := Tryz.isAgg222
  z139 := Tryz.sizeOf222
  v139 := Tryz.zeroValue222
  g3 := by kernel_rfl
  g4 := by kernel_rfl }
def Tryz.lays105_ren : Go.Shelf.Ren := ⟨fun | 105 => 154 | 212 => 211 | 99 => 212 | 165 => 213 | 166 => 214 | 170 => 215 | 169 => 216 | 263 => 253 | 264 => 254 | 206 => 255 | 240 => 256 | 241 => 257 | 276 => 288 | 277 => 289 | n => n, fun | 9 => 9 | 3 => 3 | 4 => 4 | 20 => 20 | 0 => 0 | 46 => 178 | 109 => 203 | 5 => 5 | 72 => 208 | 76 => 212 | 51 => 242 | 146 => 243 | 53 => 245 | 148 => 246 | 70 => 205 | 37 => 206 | 75 => 211 | 127 => 248 | 164 => 274 | 80 => 215 | n => n, fun | n => n⟩
theorem Tryz.lays105 : Go.Proofs.Lays.n105 Tryz.prog Tryz.lays105_ren := {
  mixed := by kernel_rfl
  f99 := Tryz.func212.trans (congrArg some (by kernel_rfl))
  f105 := Tryz.func154.trans (congrArg some (by kernel_rfl))
  f165 := Tryz.func213.trans (congrArg some (by kernel_rfl))
  f166 := Tryz.func214.trans (congrArg some (by kernel_rfl))
  f169 := Tryz.func216.trans (congrArg some (by kernel_rfl))
  f170 := Tryz.func215.trans (congrArg some (by kernel_rfl))
  f206 := Tryz.func255.trans (congrArg some (by kernel_rfl))
  f212 := Tryz.func211.trans (congrArg some (by kernel_rfl))
  f240 := Tryz.func256.trans (congrArg some (by kernel_rfl))
  f241 := Tryz.func257.trans (congrArg some (by kernel_rfl))
  f263 := Tryz.func253.trans (congrArg some (by kernel_rfl))
  f264 := Tryz.func254.trans (congrArg some (by kernel_rfl))
  f276 := Tryz.func288.trans (congrArg some (by kernel_rfl))
  f277 := Tryz.func289.trans (congrArg some (by kernel_rfl))
  t0 := Tryz.underlying0
  a0 := Tryz.isAgg0
  z0 := Tryz.sizeOf0
  v0 := Tryz.zeroValue0
  t3 := Tryz.underlying3
  a3 := Tryz.isAgg3
  z3 := Tryz.sizeOf3
  v3 := Tryz.zeroValue3
  t4 := Tryz.underlying4
  a4 := Tryz.isAgg4
  z4 := Tryz.sizeOf4
  v4 := Tryz.zeroValue4
  t5 := Tryz.underlying5
  a5 := Tryz.isAgg5
  z5 := Tryz.sizeOf5
  v5 := Tryz.zeroValue5
  t9 := Tryz.underlying9
  a9 := Tryz.isAgg9
  z9 := Tryz.sizeOf9
  v9 := Tryz.zeroValue9
  t20 := Tryz.underlying20
  a20 := Tryz.isAgg20
  z20 := Tryz.sizeOf20
  v20 := Tryz.zeroValue20
  t37 := Tryz.underlying206
  a37 := Tryz.isAgg206
  z37 := Tryz.sizeOf206
  v37 := Tryz.zeroValue206
  t46 := Tryz.underlying178
  a46 := Tryz.isAgg178
  z46 := Tryz.sizeOf178
  v46 := Tryz.zeroValue178
  t51 := Tryz.underlying242
  a51 := Tryz.isAgg242
  z51 := Tryz.sizeOf242
  v51 := Tryz.zeroValue242
  t53 := Tryz.underlying245
  a53 := Tryz.isAgg245
  z53 := Tryz.sizeOf245
  v53 := Tryz.zeroValue245
  t70 := Tryz.underlying205
  a70 := Tryz.isAgg205
  z70 := Tryz.sizeOf205
  v70 := Tryz.zeroValue205
  t72 := Tryz.underlying208
  a72 := Tryz.isAgg208
  z72 := Tryz.sizeOf208
  v72 := Tryz.zeroValue208
  t75 := Tryz.underlying211
  a75 := Tryz.isAgg211
  z75 := Tryz.sizeOf211
  v75 := Tryz.zeroValue211
  t76 := Tryz.underlying212
  a76 := Tryz.isAgg212
  z76 := Tryz.sizeOf212
  v76 := Tryz.zeroValue212
  t109 := Tryz.underlying203
  a109 := Tryz.isAgg203
  z109 := Tryz.sizeOf203
  v109 := Tryz.zeroValue203
  t127 := Tryz.underlying248
  a127 := Tryz.isAgg248
  z127 := Tryz.sizeOf248
  v127 := Tryz.zeroValue248
  t146 := Tryz.underlying243
  a146 := Tryz.isAgg243
  z146 := Tryz.sizeOf243
  v146 := Tryz.zeroValue243
  t148 := Tryz.underlying246
  a148 := Tryz.isAgg246
  z148 := Tryz.sizeOf246
  v148 := Tryz.zeroValue246
  t164 := Tryz.underlying274
  a164 := Tryz.isAgg274
  z164 := Tryz.sizeOf274
  v164 := Tryz.zeroValue274 }
def Tryz.lays161_ren : Go.Shelf.Ren := ⟨fun | 161 => 208 | 231 => 246 | 227 => 247 | 233 => 248 | 235 => 249 | 228 => 284 | 197 => 285 | 151 => 286 | 260 => 314 | 152 => 315 | 137 => 324 | 119 => 325 | 224 => 326 | 225 => 327 | 217 => 331 | 266 => 334 | n => n, fun | 9 => 9 | 4 => 4 | 3 => 3 | 5 => 5 | 117 => 238 | 116 => 237 | 0 => 0 | 124 => 241 | 105 => 271 | 21 => 21 | 119 => 219 | 46 => 178 | 139 => 222 | 138 => 221 | n => n, fun | 3 => 0 | 4 => 1 | n => n⟩
theorem Tryz.lays161 : Go.Proofs.Lays.n161 Tryz.prog Tryz.lays161_ren := {
  mixed := by kernel_rfl
  f119 := Tryz.func325.trans (congrArg some (by kernel_rfl))
  f137 := Tryz.func324.trans (congrArg some (by kernel_rfl))
  f151 := Tryz.func286.trans (congrArg some (by kernel_rfl))
  f152 := Tryz.func315.trans (congrArg some (by kernel_rfl))
  f161 := Tryz.func208.trans (congrArg some (by kernel_rfl))
  f197 := Tryz.func285.trans (congrArg some (by kernel_rfl))
  f217 := Tryz.func331.trans (congrArg some (by kernel_rfl))
  f224 := Tryz.func326.trans (congrArg some (by kernel_rfl))
  f225 := Tryz.func327.trans (congrArg some (by kernel_rfl))
  f227 := Tryz.func247.trans (congrArg some (by kernel_rfl))
  f228 := Tryz.func284.trans (congrArg some (by kernel_rfl))
  f231 := Tryz.func246.trans (congrArg some (by kernel_rfl))
  f233 := Tryz.func248.trans (congrArg some (by kernel_rfl))
  f235 := Tryz.func249.trans (congrArg some (by kernel_rfl))
  f260 := Tryz.func314.trans (congrArg some (by kernel_rfl))
  f266 := Tryz.func334.trans (congrArg some (by kernel_rfl))
  t0 := Tryz.underlying0
  a0 := Tryz.isAgg0
  z0 := Tryz.sizeOf0
  v0 := Tryz.zeroValue0
  t3 := Tryz.underlying3
  a3 := Tryz.isAgg3
  z3 := Tryz.sizeOf3
  v3 := Tryz.zeroValue3
  t4 := Tryz.underlying4
  a4 := Tryz.isAgg4
  z4 := Tryz.sizeOf4
  v4 := Tryz.zeroValue4
  t5 := Tryz.underlying5
  a5 := Tryz.isAgg5
  z5 := Tryz.sizeOf5
  v5 := Tryz.zeroValue5
  t9 := Tryz.underlying9
  a9 := Tryz.isAgg9
  z9 := Tryz.sizeOf9
  v9 := Tryz.zeroValue9
  t21 := Tryz.underlying21
  a21 := Tryz.isAgg21
  z21 := Tryz.sizeOf21
  v21 := Tryz.zeroValue21
  t46 := Tryz.underlying178
  a46 := Tryz.isAgg178
  z46 := Tryz.sizeOf178
  v46 := Tryz.zeroValue178
  t105 := Tryz.underlying271
  a105 := Tryz.isAgg271
  z105 := Tryz.sizeOf271
  v105 := Tryz.zeroValue271
  t116 := Tryz.underlying237
  a116 := Tryz.isAgg237
  z116 := Tryz.sizeOf237
  t117 := Tryz.underlying238
  a117 := Tryz.isAgg238
  z117 := Tryz.sizeOf238
  v117 := Tryz.zeroValue238
  t119 := Tryz.underlying219
  a119 := Tryz.isAgg219
  z119 := Tryz.sizeOf219
  t124 := Tryz.underlying241
  a124 := Tryz.isAgg241
  z124 := Tryz.sizeOf241
  v124 := Tryz.zeroValue241
  t138 := Tryz.underlying221
  a138 := Tryz.isAgg221
  z138 := Tryz.sizeOf221
  v138 := Tryz.zeroValue221
  t139 := Tryz.underlying222
  a139 := Tryz.isAgg222
  z139 := Tryz.sizeOf222
  v139 := Tryz.zeroValue222
  g3 := by kernel_rfl
  g4 := by kernel_rfl }
def Tryz.lays162_ren : Go.Shelf.Ren := ⟨fun | 162 => 209 | 232 => 250 | 227 => 247 | 234 => 251 | 236 => 252 | 228 => 284 | 271 => 287 | 151 => 286 | 120 => 316 | 197 => 285 | 152 => 315 | 260 => 314 | 137 => 324 | 119 => 325 | 224 => 326 | 225 => 327 | 217 => 331 | 266 => 334 | n => n, fun | 9 => 9 | 4 => 4 | 3 => 3 | 5 => 5 | 117 => 238 | 116 => 237 | 0 => 0 | 124 => 241 | 21 => 21 | 105 => 271 | 46 => 178 | 119 => 219 | 139 => 222 | 138 => 221 | n => n, fun | 3 => 0 | 4 => 1 | n => n⟩
theorem Tryz.lays162 : Go.Proofs.Lays.n162 Tryz.prog Tryz.lays162_ren := {
  mixed := by kernel_rfl
  f119 := Tryz.func325.trans (congrArg some (by kernel_rfl))
  f120 := Tryz.func316.trans (congrArg some (by kernel_rfl))
  f137 := Tryz.func324.trans (congrArg some (by kernel_rfl))
  f151 := Tryz.func286.trans (congrArg some (by kernel_rfl))
  f152 := Tryz.func315.trans (congrArg some (by kernel_rfl))
  f162 := Tryz.func209.trans (congrArg some (by kernel_rfl))
  f197 := Tryz.func285.trans (congrArg some (by kernel_rfl))
  f217 := Tryz.func331.trans (congrArg some (by kernel_rfl))
  f224 := Tryz.func326.trans (congrArg some (by kernel_rfl))
  f225 := Tryz.func327.trans (congrArg some (by kernel_rfl))
  f227 := Tryz.func247.trans (congrArg some (by kernel_rfl))
  f228 := Tryz.func284.trans (congrArg some (by kernel_rfl))
  f232 := Tryz.func250.trans (congrArg some (by kernel_rfl))
  f234 := Tryz.func251.trans (congrArg some (by kernel_rfl))
  f236 := Tryz.func252.trans (congrArg some (by kernel_rfl))
  f260 := Tryz.func314.trans (congrArg some (by kernel_rfl))
  f266 := Tryz.func334.trans (congrArg some (by kernel_rfl))
  f271 := Tryz.func287.trans (congrArg some (by kernel_rfl))
  t0 := Tryz.underlying0
  a0 := Tryz.isAgg0
  z0 := Tryz.sizeOf0
  v0 := Tryz.zeroValue0
  t3 := Tryz.underlying3
  a3 := Tryz.isAgg3
  z3 := Tryz.sizeOf3
  v3 := Tryz.zeroValue3
  t4 := Tryz.underlying4
  a4 := Tryz.isAgg4
  z4 := Tryz.sizeOf4
  v4 := Tryz.zeroValue4
  t5 := Tryz.underlying5
  a5 := Tryz.isAgg5
  z5 := Tryz.sizeOf5
  v5 := Tryz.zeroValue5
  t9 := Tryz.underlying9
  a9 := Tryz.isAgg9
  z9 := Tryz.sizeOf9
  v9 := Tryz.zeroValue9
  t21 := Tryz.underlying21
  a21 := Tryz.isAgg21
  z21 := Tryz.sizeOf21
  v21 := Tryz.zeroValue21
  t46 := Tryz.underlying178
  a46 := Tryz.isAgg178
  z46 := Tryz.sizeOf178
  v46 := Tryz.zeroValue178
  t105 := Tryz.underlying271
  a105 := Tryz.isAgg271
  z105 := Tryz.sizeOf271
  v105 := Tryz.zeroValue271
  t116 := Tryz.underlying237
  a116 := Tryz.isAgg237
  z116 := Tryz.sizeOf237
  t117 := Tryz.underlying238
  a117 := Tryz.isAgg238
  z117 := Tryz.sizeOf238
  v117 := Tryz.zeroValue238
  t119 := Tryz.underlying219
  a119 := Tryz.isAgg219
  z119 := Tryz.sizeOf219
  t124 := Tryz.underlying241
  a124 := Tryz.isAgg241
  z124 := Tryz.sizeOf241
  v124 := Tryz.zeroValue241
  t138 := Tryz.underlying221
  a138 := Tryz.isAgg221
  z138 := Tryz.sizeOf221
  v138 := Tryz.zeroValue221
  t139 := Tryz.underlying222
  a139 := Tryz.isAgg222
  z139 := Tryz.sizeOf222
  v139 := Tryz.zeroValue222
  g3 := by kernel_rfl
  g4 := by kernel_rfl }
end Go.Proofs

/-! LpLib -/

namespace Lp
open Go Go.Proofs Go.RowKit
set_option maxHeartbeats 4000000
set_option maxRecDepth 100000
theorem qgr {w : World} {ok : Nat → Prop} {blk : Nat → Option Nat} {args : List PV} {vs : List Value} (h : RepL (RepT w ok [] blk) args vs) : RepL (Rep w ok) args vs := h.mono fun _ _ h => q78 h
theorem FnSpec.of_keep {P : Program} {f : FuncId} {args : List PV} {r : PV} (hent : qe5 P f)
    (h : ∀ (w : World) (vs : List Value) (ok : Nat → Prop), glob.holds w.heap → RepL (Rep w ok) args vs → Calls P f ⟨vs⟩ w fun e w' => ∃ v, e = .returned v ∧ (∀ w ok, Rep w ok r v) ∧ Below w.heap.size w w') :
    FnSpec P f args [] r [] := by
  refine ⟨hent, fun w blk vs base hb _ hargs => (h w vs _ hb.1 (qgr hargs)).mono ?_⟩
  rintro e w' ⟨v, h1, h2, h3⟩
  exact ⟨v, blk, h1, q6p, .of_rep (h2 _ _), fun b hb _ => h3.block b hb, h3.size, h3.os, h3.output⟩
theorem rep1 {w : World} {ok : Nat → Prop} {p : PV} {vs : List Value} (h : RepL (Rep w ok) [p] vs) : ∃ u, vs = [u] ∧ Rep w ok p u := by
  obtain ⟨hl, h⟩ := h
  match vs, hl with
  | [u], _ => exact ⟨u, rfl, h 0 _ _ rfl rfl⟩
theorem rep2 {w : World} {ok : Nat → Prop} {p q : PV} {vs : List Value} (h : RepL (Rep w ok) [p, q] vs) : ∃ u v, vs = [u, v] ∧ Rep w ok p u ∧ Rep w ok q v := by
  obtain ⟨hl, h⟩ := h
  match vs, hl with
  | [u, v], _ => exact ⟨u, v, rfl, h 0 _ _ rfl rfl, h 1 _ _ rfl rfl⟩
theorem q34 {w : World} {ok : Nat → Prop} {s : List UInt8} {v : Value} (h : Rep w ok (.str s) v) : v = .string ⟨⟨s⟩⟩ := by cases h; rfl
theorem qnu {w : World} {ok : Nat → Prop} {k : IntKind} {n : Int} {v : Value} (h : Rep w ok (.int k n) v) : v = .int k n := by cases h; rfl
theorem qjc (w : World) : Below w.heap.size w w.drew := (Below.refl _ _).drew
theorem qf2 {w : World} (h : glob.holds w.heap) : Lib.Utf8Tabs 0 1 w := h w rfl
theorem q93 (s : List UInt8) (hs : s.length ≤ 4611686018427387904) : FnSpec Tryz.prog f_unicode_utf8_ValidString [.str s] [] (.bool (utf s)) [] := by
  refine FnSpec.of_keep ⟨_, Tryz.lays196.f196, by kernel_rfl, by kernel_rfl⟩ fun w vs ok hg hr => ?_
  obtain ⟨u, rfl, h⟩ := rep1 hr
  cases q34 h
  refine (Any.utf8_ValidString Tryz.lays196 ⟨⟨s⟩⟩ w (by rw [Lib.size_eq]; simp; omega) (qf2 hg)).mono ?_
  rintro e w' ⟨h1, h2⟩
  exact ⟨_, h1, fun w ok => by rw [qme]; exact .bool _, h2⟩
theorem qjd (s : List UInt8) (hs : s.length ≤ 4611686018427387904) : FnSpec Tryz.prog f_strings_Trim [.str s, .str [48]] [] (.str (Lib.trimB s 48)) [] := by
  refine FnSpec.of_keep ⟨_, Tryz.lays160.f160, by kernel_rfl, by kernel_rfl⟩ fun w vs ok hg hr => ?_
  obtain ⟨u, v, rfl, h, h'⟩ := rep2 hr
  cases q34 h
  cases q34 h'
  refine (Any.strings_Trim_one Tryz.lays160 ⟨⟨s⟩⟩ 48 (by decide) w (by rw [Lib.size_eq]; simp; omega)).mono ?_
  rintro e w' ⟨h1, h2⟩
  refine ⟨_, h1, fun w ok => .str _, ?_⟩
  rcases h2 with rfl | rfl
  · exact .refl _ _
  · exact qjc w
theorem qdb (W : World) (x : Nat) (hx : x ≤ 1114111) : Calls Tryz.prog f_num_isFigure #[.int .i32 (x : Int)] W fun e w' => e = .returned (.bool (figP x)) ∧ Below W.heap.size W w' := by
  have mixed : Tryz.prog.follows .mixedOrders = true := by kernel_rfl
  have e1 : figP x = (decide (48 ≤ (x : Int)) && decide ((x : Int) ≤ 57)) := by
    have a : decide (48 ≤ x) = decide (48 ≤ (x : Int)) := decide_eq_decide.2 (by omega)
    have b : decide (x ≤ 57) = decide ((x : Int) ≤ 57) := decide_eq_decide.2 (by omega)
    rw [figP, a, b]
  rw [e1]
  have h1 : (x : Int) < 48 ∨ 48 ≤ (x : Int) := by omega
  rcases h1 with h1 | h1
  · have h2 : ¬ (48 ≤ (x : Int)) := by omega
    rw [decide_eq_false h2]
    go_enter Tryz.func245, Tryz.ntmps245
    go_wp2
    go_ret
    exact ⟨rfl, .refl _ _⟩
  · rw [decide_eq_true h1]
    rcases (by omega : (x : Int) ≤ 57 ∨ 57 < (x : Int)) with h2 | h2
    · rw [decide_eq_true h2]
      go_enter Tryz.func245, Tryz.ntmps245
      go_wp2
      go_ret
      exact ⟨rfl, .refl _ _⟩
    · have h3 : ¬ ((x : Int) ≤ 57) := by omega
      rw [decide_eq_false h3]
      go_enter Tryz.func245, Tryz.ntmps245
      go_wp2
      go_ret
      exact ⟨rfl, .refl _ _⟩
theorem qf3 (s : List UInt8) (hs : s.length ≤ 4611686018427387904) : FnSpec Tryz.prog f_strings_TrimFunc [.str s, .fn f_num_isFigure [] []] [] (.str (Lib.trimF figP ⟨⟨s⟩⟩).data.toList) [] := by
  refine FnSpec.of_keep ⟨_, Tryz.lays237.f237, by kernel_rfl, by kernel_rfl⟩ fun w vs ok hg hr => ?_
  obtain ⟨u, v, rfl, h, h'⟩ := rep2 hr
  cases q34 h
  have hv : v = .func (.func f_num_isFigure) #[] #[] := by
    cases h' with
    | fn _ _ _ va vc hla hlc ha hc =>
      have e1 : va = [] := List.length_eq_zero_iff.1 (by simpa using hla.symm)
      have e2 : vc = [] := List.length_eq_zero_iff.1 (by simpa using hlc.symm)
      subst e1; subst e2; rfl
  subst hv
  have eg : ∀ args w, (callFunc f_num_isFigure args).run Tryz.prog w = .ok (.enter f_num_isFigure args) w := enters_of Tryz.func245 (by kernel_rfl) rfl
  refine (Any.strings_TrimFunc_grows Tryz.lays237 f_num_isFigure #[] eg figP ⟨⟨s⟩⟩ w (by rw [Lib.size_eq]; simp; omega) (qf2 hg) fun W x hx _ => qdb W x hx).mono ?_
  rintro e w' ⟨h1, h2⟩
  exact ⟨_, h1, fun w ok => .str _, h2⟩
def q60 : Ctr := fun args objs K => match args with
  | [.str s, a1] => a1 = (.fn f_num_isFigure [] []) ∧ (s.length ≤ 4611686018427387904) ∧ K (.str (Lib.trimF figP ⟨⟨s⟩⟩).data.toList) objs 0
  | _ => False
theorem qdc : CtrOk Tryz.prog f_strings_TrimFunc (q60) := by
  intro args objs K h
  unfold q60 at h
  split at h
  · rename_i s a1
    obtain ⟨rfl, h1, hk⟩ := h
    exact ⟨_, _, _, .pure _ rfl (qf3 s h1), hk⟩
  · exact h.elim
def q11 : Ctr := fun args objs K => match args with
  | [.str s] => (s.length ≤ 4611686018427387904) ∧ K (.bool (utf s)) objs 0
  | _ => False
theorem q8s : CtrOk Tryz.prog f_unicode_utf8_ValidString (q11) := by
  intro args objs K h
  unfold q11 at h
  split at h
  · rename_i s
    obtain ⟨h1, hk⟩ := h
    exact ⟨_, _, _, .pure _ rfl (q93 s h1), hk⟩
  · exact h.elim
def q9g : Ctr := fun args objs K => match args with
  | [.str s, a1] => a1 = (.str [48]) ∧ (s.length ≤ 4611686018427387904) ∧ K (.str (Lib.trimB s 48)) objs 0
  | _ => False
theorem qgs : CtrOk Tryz.prog f_strings_Trim (q9g) := by
  intro args objs K h
  unfold q9g at h
  split at h
  · rename_i s a1
    obtain ⟨rfl, h1, hk⟩ := h
    exact ⟨_, _, _, .pure _ rfl (qjd s h1), hk⟩
  · exact h.elim
end Lp

/-! LpD7 -/

namespace Lp
open Go Go.Proofs
set_option maxHeartbeats 4000000
set_option maxRecDepth 20000
set_option linter.unusedSimpArgs false
def powB (m e : Int) : Bool := decide (-1000 ≤ e) && decide (e ≤ 1000) && decide (m + e ≤ 1000)
theorem qf4 (m e : Int) (hm : 0 ≤ m ∧ m ≤ 1000000) : FnSpec Tryz.prog f_num_isPower [.int .i64 m, .int .i64 e] [] (.bool (powB m e)) [] := by
  refine k_num_isPower.pureG (T := tabL Tryz.prog []) 0 hD (q0e q0d) hmix (by decide) fun Q hQ => ?_
  try simp only [F_all]
  rcases tf (-1000 ≤ e) with h1 | h1
  rotate_left 1
  · have hr : powB m e = false := by have : ¬ (-1000 ≤ e) := fun h => by rw [h1] at h; exact h
                                     simp [powB, this]
    simp (maxSteps := 400000) only [↓preZ, postZ, coreZ, ↓preU, postU, D_all, F_all, unR, outL, onePV, binS, ↓binS, q03, ↓q03, q01, ↓q01, boxR, q0b, newObj, q05, q00, q06, q09, q0a, St.freeze, q02, q07, q04, BEq.rfl, reduceIte, reduceCtorEq, Nat.reduceLT, Nat.reduceAdd, Nat.reduceSub, Nat.reduceMul, Nat.reduceBEq, Nat.reduceLeDiff, Int.reduceToNat, Int.reduceLE, hQ, q32, h1, hr]
  rcases tf (e ≤ 1000) with h2 | h2
  rotate_left 1
  · have hr : powB m e = false := by have : ¬ (e ≤ 1000) := fun h => by rw [h2] at h; exact h
                                     simp [powB, this]
    simp (maxSteps := 400000) only [↓preZ, postZ, coreZ, ↓preU, postU, D_all, F_all, unR, outL, onePV, binS, ↓binS, q03, ↓q03, q01, ↓q01, boxR, q0b, newObj, q05, q00, q06, q09, q0a, St.freeze, q02, q07, q04, BEq.rfl, reduceIte, reduceCtorEq, Nat.reduceLT, Nat.reduceAdd, Nat.reduceSub, Nat.reduceMul, Nat.reduceBEq, Nat.reduceLeDiff, Int.reduceToNat, Int.reduceLE, hQ, q32, h1, h2, hr]
  have h1' := of_eq_true h1
  have h2' := of_eq_true h2
  have hr : powB m e = decide (m + e ≤ 1000) := by simp [powB, h1', h2']
  simp (maxSteps := 400000) only [↓preZ, postZ, coreZ, ↓preU, postU, D_all, F_all, unR, outL, onePV, binS, ↓binS, q03, ↓q03, q01, ↓q01, boxR, q0b, newObj, q05, q00, q06, q09, q0a, St.freeze, q02, q07, q04, BEq.rfl, reduceIte, reduceCtorEq, Nat.reduceLT, Nat.reduceAdd, Nat.reduceSub, Nat.reduceMul, Nat.reduceBEq, Nat.reduceLeDiff, Int.reduceToNat, Int.reduceLE, hQ, q32, h1, h2, hr]
  exact ⟨by omega, by omega⟩
def q1r : Ctr := fun args objs K => match args with
  | [.int .i64 m, .int .i64 e] => (0 ≤ m ∧ m ≤ 1000000) ∧ K (.bool (powB m e)) objs 0
  | _ => False
theorem q7p : CtrOk Tryz.prog f_num_isPower (q1r) := by
  intro args objs K h
  unfold q1r at h
  split at h
  · rename_i m e
    obtain ⟨h1, hk⟩ := h
    exact ⟨_, _, _, .pure _ rfl (qf4 m e h1), hk⟩
  · exact h.elim
theorem qbi (s : List UInt8) (hs : s.length ≤ 4611686018427387904) : FnSpec Tryz.prog f_num_isFigures [.str s] [] (.bool (figs s)) [] := by
  refine k_num_isFigures.pureG (T := tabL Tryz.prog [(f_strings_TrimFunc, q60)]) 0 hD (q0e (q0c qdc q0d)) hmix (by decide) fun Q hQ => ?_
  try simp only [F_all]
  have hf := qja s
  simp (maxSteps := 400000) only [↓preZ, postZ, coreZ, ↓preU, postU, D_all, F_all, unR, outL, onePV, binS, ↓binS, q03, ↓q03, q01, ↓q01, boxR, q0b, newObj, q05, q00, q06, q09, q0a, St.freeze, q02, q07, q04, BEq.rfl, reduceIte, reduceCtorEq, Nat.reduceLT, Nat.reduceAdd, Nat.reduceSub, Nat.reduceMul, Nat.reduceBEq, Nat.reduceLeDiff, Int.reduceToNat, Int.reduceLE, hQ, q5i, ↓q60]
  refine ⟨hs, ?_⟩
  rw [Bool.eq_iff_iff, ← hf, decide_eq_true_iff]
  constructor
  · intro h; rw [h]
  · intro h
    generalize Lib.trimF figP ⟨⟨s⟩⟩ = t at h
    obtain ⟨⟨t⟩⟩ := t
    have h' : t = [] := h
    rw [h']
def q0r : Ctr := fun args objs K => match args with
  | [.str s] => (s.length ≤ 4611686018427387904) ∧ K (.bool (figs s)) objs 0
  | _ => False
theorem q5l : CtrOk Tryz.prog f_num_isFigures (q0r) := by
  intro args objs K h
  unfold q0r at h
  split at h
  · rename_i s
    obtain ⟨h1, hk⟩ := h
    exact ⟨_, _, _, .pure _ rfl (qbi s h1), hk⟩
  · exact h.elim
theorem qmf (n : Nd) (hk : n.kind = 3) (hn : n.name = []) (hs : n.s.length ≤ 4611686018427387904) : FnSpec Tryz.prog f_num_Right [encN n] [] (.bool (numB n)) [] := by
  refine k_num_Right.pureG (T := tabL Tryz.prog [(f_num_isPower, q1r), (f_num_isFigures, q0r), (f_strings_Trim, q9g)]) 0 hD (q0e (q0c q7p (q0c q5l (q0c qgs q0d)))) hmix (by decide) fun Q hQ => ?_
  try simp only [F_all]
  simp (maxSteps := 400000) only [↓preZ, postZ, coreZ, ↓preU, postU, D_all, F_all, unR, outL, onePV, binS, ↓binS, q03, ↓q03, q01, ↓q01, boxR, q0b, newObj, q05, q00, q06, q09, q0a, St.freeze, q02, q07, q04, BEq.rfl, reduceIte, reduceCtorEq, Nat.reduceLT, Nat.reduceAdd, Nat.reduceSub, Nat.reduceMul, Nat.reduceBEq, Nat.reduceLeDiff, Int.reduceToNat, Int.reduceLE, hQ, qac]
  refine q0m _ (Weak.freeze 1 0 (Nat.le_refl _) _) ?_
  have key := q43 n
  have hpw : ∀ b, powB n.s.length n.e = b → (b = true ↔ -1000 ≤ n.e ∧ n.e ≤ 1000 ∧ n.s.length + n.e ≤ 1000) := fun b hb => by
    rw [← hb]; simp [powB, and_assoc]
  cases hp : powB n.s.length n.e
  · have hr : numB n = false := q2a fun h => by
      have g := (hpw _ hp).2 ⟨(key.1 h).2.2.2.1, (key.1 h).2.2.2.2.1, (key.1 h).2.2.2.2.2.1⟩
      cases g
    simp (maxSteps := 400000) only [↓preZ, postZ, coreZ, ↓preU, postU, D_all, F_all, unR, outL, onePV, binS, ↓binS, q03, ↓q03, q01, ↓q01, boxR, q0b, newObj, q05, q00, q06, q09, q0a, St.freeze, q02, q07, q04, BEq.rfl, reduceIte, reduceCtorEq, Nat.reduceLT, Nat.reduceAdd, Nat.reduceSub, Nat.reduceMul, Nat.reduceBEq, Nat.reduceLeDiff, Int.reduceToNat, Int.reduceLE, hQ, frzC0, ↓q1r, hk, hn, Int.reduceEq, hp, hr]
    refine fun h0 h1 => ⟨by omega, by omega⟩
  have hpw' := (hpw _ hp).1 rfl
  cases hf : figs n.s
  · have hr : numB n = false := q2a fun h => by have := (key.1 h).2.1; rw [hf] at this; cases this
    simp (maxSteps := 400000) only [↓preZ, postZ, coreZ, ↓preU, postU, D_all, F_all, unR, outL, onePV, binS, ↓binS, q03, ↓q03, q01, ↓q01, boxR, q0b, newObj, q05, q00, q06, q09, q0a, St.freeze, q02, q07, q04, BEq.rfl, reduceIte, reduceCtorEq, Nat.reduceLT, Nat.reduceAdd, Nat.reduceSub, Nat.reduceMul, Nat.reduceBEq, Nat.reduceLeDiff, Int.reduceToNat, Int.reduceLE, hQ, frzC0, ↓q1r, ↓q0r, hk, hn, Int.reduceEq, hp, hf, hr]
    refine fun h0 h1 => ⟨⟨by omega, by omega⟩, hs⟩
  by_cases hz : n.s = []
  · rw [if_pos hz] at key
    have hf0 : figs [] = true := rfl
    rw [hz] at hp key
    have hp0 : powB ((0 : Nat) : Int) n.e = true := hp
    simp (maxSteps := 400000) only [↓preZ, postZ, coreZ, ↓preU, postU, D_all, F_all, unR, outL, onePV, binS, ↓binS, q03, ↓q03, q01, ↓q01, boxR, q0b, newObj, q05, q00, q06, q09, q0a, St.freeze, q02, q07, q04, BEq.rfl, reduceIte, reduceCtorEq, Nat.reduceLT, Nat.reduceAdd, Nat.reduceSub, Nat.reduceMul, Nat.reduceBEq, Nat.reduceLeDiff, Int.reduceToNat, Int.reduceLE, hQ, frzC0, ↓q1r, ↓q0r, hk, hn, Int.reduceEq, hp0, hf0, hz]
    refine ⟨fun h0 => ⟨fun h => absurd h (by omega), fun _ => ⟨⟨by omega, by omega⟩, fun hng => ?_, fun hng => ?_⟩⟩, fun h0 => q2a fun hb => h0 (key.1 hb).1⟩
    · exact q2a fun hb => by have := (key.1 hb).2.2.2.2.2.2.1; rw [hng] at this; cases this
    · rw [Bool.eq_iff_iff, decide_eq_true_iff, key]
      refine ⟨fun h => h.2.2.2.2.2.2.2, fun h => ⟨h0, rfl, by simp, hpw'.1, hpw'.2.1, by simp; omega, by simpa using hng, h⟩⟩
  · rw [if_neg hz] at key
    have htr := qjb n.s 48
    have hz' : (n.s = []) = False := eq_false hz
    simp (maxSteps := 400000) only [↓preZ, postZ, coreZ, ↓preU, postU, D_all, F_all, unR, outL, onePV, binS, ↓binS, q03, ↓q03, q01, ↓q01, boxR, q0b, newObj, q05, q00, q06, q09, q0a, St.freeze, q02, q07, q04, BEq.rfl, reduceIte, reduceCtorEq, Nat.reduceLT, Nat.reduceAdd, Nat.reduceSub, Nat.reduceMul, Nat.reduceBEq, Nat.reduceLeDiff, Int.reduceToNat, Int.reduceLE, hQ, frzC0, ↓q1r, ↓q0r, ↓q9g, hk, hn, Int.reduceEq, hp, hf, hz']
    refine ⟨fun h0 => ⟨fun h => q2a fun hb => ?_, fun h1 => ⟨⟨by omega, by omega⟩, hs, hs, ?_⟩⟩, fun h0 => q2a fun hb => h0 (key.1 hb).1⟩
    · have := key.1 hb; omega
    · rw [Bool.eq_iff_iff, decide_eq_true_iff, key, htr]
      exact ⟨fun h => h.2.2.2.2.2.2, fun h => ⟨h0, hf, by omega, hpw'.1, hpw'.2.1, hpw'.2.2, h⟩⟩
def q3l : Ctr := fun args objs K => match args with
  | [a0] => ofE encN a0 (HK.mk : HK fun n => (n.kind = 3) ∧ (n.name = []) ∧ (n.s.length ≤ 4611686018427387904) ∧ K (.bool (numB n)) objs 0)
  | _ => False
theorem qje : CtrOk Tryz.prog f_num_Right (q3l) := by
  intro args objs K h
  unfold q3l at h
  split at h
  · rename_i a0
    obtain ⟨n, rfl, h1, h2, h3, hk⟩ := h
    exact ⟨_, _, _, .pure _ rfl (qmf n h1 h2 h3), hk⟩
  · exact h.elim
theorem qf5 (n : Nd) (hl : n.s.length ≤ 4611686018427387904) : FnSpec Tryz.prog f_val_isPlain [encN n] [] (.bool (q0n n)) [] := by
  refine k_val_isPlain.pureG (T := tabL Tryz.prog [(f_unicode_utf8_ValidString, q11), (f_num_Right, q3l)]) 0 hD (q0e (q0c q8s (q0c qje q0d))) hmix (by decide) fun Q hQ => ?_
  try simp only [F_all]
  simp (maxSteps := 400000) only [↓preZ, postZ, coreZ, ↓preU, postU, D_all, F_all, unR, outL, onePV, binS, ↓binS, q03, ↓q03, q01, ↓q01, boxR, q0b, newObj, q05, q00, q06, q09, q0a, St.freeze, q02, q07, q04, BEq.rfl, reduceIte, reduceCtorEq, Nat.reduceLT, Nat.reduceAdd, Nat.reduceSub, Nat.reduceMul, Nat.reduceBEq, Nat.reduceLeDiff, Int.reduceToNat, Int.reduceLE, hQ, q7a, nmP, enc6]
  refine q0m _ (Weak.freeze 1 0 (Nat.le_refl _) _) ?_
  have hn0 : ∀ h, frz 1 0 [⟨t_api_Node, 6, [encN { kind := n.kind, many := n.many, name := [], s := n.s, neg := n.neg, e := n.e }], true, 1⟩] (.optr 0 1 0 0) = h → .addr (encN ⟨n.kind, n.many, [], n.s, n.neg, n.e⟩) = h := fun _ h => h
  have h8 : n.kind = 0 ∨ n.kind = 1 ∨ n.kind = 2 ∨ n.kind = 3 ∨ n.kind = 4 ∨ n.kind = 5 ∨ n.kind = 6 ∨ (n.kind ≠ 0 ∧ n.kind ≠ 1 ∧ n.kind ≠ 2 ∧ n.kind ≠ 3 ∧ n.kind ≠ 4 ∧ n.kind ≠ 5 ∧ n.kind ≠ 6) := by omega
  rcases h8 with hk | hk | hk | hk | hk | hk | hk | ⟨k0, k1, k2, k3, k4, k5, k6⟩
  · simp (maxSteps := 400000) only [↓preZ, postZ, coreZ, ↓preU, postU, D_all, F_all, unR, outL, onePV, binS, ↓binS, q03, ↓q03, q01, ↓q01, boxR, q0b, newObj, q05, q00, q06, q09, q0a, St.freeze, q02, q07, q04, BEq.rfl, reduceIte, reduceCtorEq, Nat.reduceLT, Nat.reduceAdd, Nat.reduceSub, Nat.reduceMul, Nat.reduceBEq, Nat.reduceLeDiff, Int.reduceToNat, Int.reduceLE, hQ, frzC0, ↓q11, ↓q3l, hk, Int.reduceEq]
    rw [Bool.eq_iff_iff]
    simp [q0n, hk, and_assoc]
  · simp (maxSteps := 400000) only [↓preZ, postZ, coreZ, ↓preU, postU, D_all, F_all, unR, outL, onePV, binS, ↓binS, q03, ↓q03, q01, ↓q01, boxR, q0b, newObj, q05, q00, q06, q09, q0a, St.freeze, q02, q07, q04, BEq.rfl, reduceIte, reduceCtorEq, Nat.reduceLT, Nat.reduceAdd, Nat.reduceSub, Nat.reduceMul, Nat.reduceBEq, Nat.reduceLeDiff, Int.reduceToNat, Int.reduceLE, hQ, frzC0, ↓q11, ↓q3l, hk, Int.reduceEq]
    rw [Bool.eq_iff_iff]
    simp [q0n, hk, and_assoc]
  · simp (maxSteps := 400000) only [↓preZ, postZ, coreZ, ↓preU, postU, D_all, F_all, unR, outL, onePV, binS, ↓binS, q03, ↓q03, q01, ↓q01, boxR, q0b, newObj, q05, q00, q06, q09, q0a, St.freeze, q02, q07, q04, BEq.rfl, reduceIte, reduceCtorEq, Nat.reduceLT, Nat.reduceAdd, Nat.reduceSub, Nat.reduceMul, Nat.reduceBEq, Nat.reduceLeDiff, Int.reduceToNat, Int.reduceLE, hQ, frzC0, ↓q11, ↓q3l, hk, Int.reduceEq]
    rw [Bool.eq_iff_iff]
    simp [q0n, hk, and_assoc]
  · simp (maxSteps := 400000) only [↓preZ, postZ, coreZ, ↓preU, postU, D_all, F_all, unR, outL, onePV, binS, ↓binS, q03, ↓q03, q01, ↓q01, boxR, q0b, newObj, q05, q00, q06, q09, q0a, St.freeze, q02, q07, q04, BEq.rfl, reduceIte, reduceCtorEq, Nat.reduceLT, Nat.reduceAdd, Nat.reduceSub, Nat.reduceMul, Nat.reduceBEq, Nat.reduceLeDiff, Int.reduceToNat, Int.reduceLE, hQ, frzC0, ↓q11, ↓q3l, hk, Int.reduceEq]
    refine ⟨hl, ?_⟩
    simp [q0n, hk, numB]
  · simp (maxSteps := 400000) only [↓preZ, postZ, coreZ, ↓preU, postU, D_all, F_all, unR, outL, onePV, binS, ↓binS, q03, ↓q03, q01, ↓q01, boxR, q0b, newObj, q05, q00, q06, q09, q0a, St.freeze, q02, q07, q04, BEq.rfl, reduceIte, reduceCtorEq, Nat.reduceLT, Nat.reduceAdd, Nat.reduceSub, Nat.reduceMul, Nat.reduceBEq, Nat.reduceLeDiff, Int.reduceToNat, Int.reduceLE, hQ, frzC0, ↓q11, ↓q3l, hk, Int.reduceEq]
    refine ⟨hl, ?_⟩
    cases hu : utf n.s
    · simp [ifP, q0n, hk, hu]
    · simp only [ifR]
      rw [Bool.eq_iff_iff]
      simp [q0n, hk, hu, and_assoc]
  · simp (maxSteps := 400000) only [↓preZ, postZ, coreZ, ↓preU, postU, D_all, F_all, unR, outL, onePV, binS, ↓binS, q03, ↓q03, q01, ↓q01, boxR, q0b, newObj, q05, q00, q06, q09, q0a, St.freeze, q02, q07, q04, BEq.rfl, reduceIte, reduceCtorEq, Nat.reduceLT, Nat.reduceAdd, Nat.reduceSub, Nat.reduceMul, Nat.reduceBEq, Nat.reduceLeDiff, Int.reduceToNat, Int.reduceLE, hQ, frzC0, ↓q11, ↓q3l, hk, Int.reduceEq]
    refine ⟨fun hm => ?_, fun hm => ?_⟩
    · rw [Bool.eq_iff_iff]
      simp [q0n, hk, hm, and_assoc]
    · simp [q0n, hk, hm]
  · simp (maxSteps := 400000) only [↓preZ, postZ, coreZ, ↓preU, postU, D_all, F_all, unR, outL, onePV, binS, ↓binS, q03, ↓q03, q01, ↓q01, boxR, q0b, newObj, q05, q00, q06, q09, q0a, St.freeze, q02, q07, q04, BEq.rfl, reduceIte, reduceCtorEq, Nat.reduceLT, Nat.reduceAdd, Nat.reduceSub, Nat.reduceMul, Nat.reduceBEq, Nat.reduceLeDiff, Int.reduceToNat, Int.reduceLE, hQ, frzC0, ↓q11, ↓q3l, hk, Int.reduceEq]
    refine ⟨fun hm => ?_, fun hm => ?_⟩
    · rw [Bool.eq_iff_iff]
      simp [q0n, hk, hm, and_assoc]
    · simp [q0n, hk, hm]
  · simp (maxSteps := 400000) only [↓preZ, postZ, coreZ, ↓preU, postU, D_all, F_all, unR, outL, onePV, binS, ↓binS, q03, ↓q03, q01, ↓q01, boxR, q0b, newObj, q05, q00, q06, q09, q0a, St.freeze, q02, q07, q04, BEq.rfl, reduceIte, reduceCtorEq, Nat.reduceLT, Nat.reduceAdd, Nat.reduceSub, Nat.reduceMul, Nat.reduceBEq, Nat.reduceLeDiff, Int.reduceToNat, Int.reduceLE, hQ, frzC0, ↓q11, ↓q3l, k0, k1, k2, k3, k4, k5, k6]
    simp [q0n, k0, k1, k2, k3, k4, k5, k6]
def q1b : Ctr := fun args objs K => match args with
  | [a0] => ofE encN a0 (HK.mk : HK fun n => (n.s.length ≤ 4611686018427387904) ∧ K (.bool (q0n n)) objs 0)
  | _ => False
theorem qdd : CtrOk Tryz.prog f_val_isPlain (q1b) := by
  intro args objs K h
  unfold q1b at h
  split at h
  · rename_i a0
    obtain ⟨n, rfl, h1, hk⟩ := h
    exact ⟨_, _, _, .pure _ rfl (qf5 n h1), hk⟩
  · exact h.elim
end Lp

/-! LpD8 -/

namespace Lp
open Go Go.Proofs
set_option maxHeartbeats 4000000
set_option maxRecDepth 20000
set_option linter.unusedSimpArgs false
def encO (o : Opn) : PV := .agg [.int .i64 o.kind, .int .i64 o.left, .bool o.first, .str o.last]
def encOs (l : List Opn) : PV := .sl 4 (l.map encO) none
theorem qde : ∀ a b, encO a = encO b → a = b := by
  intro a b h
  cases a; cases b
  simp only [encO, PV.agg.injEq, List.cons.injEq, PV.int.injEq, PV.str.injEq, PV.bool.injEq, true_and, and_true] at h
  obtain ⟨rfl, rfl, rfl, rfl⟩ := h
  rfl
theorem opnC :
    (∀ o, (encO o).cells = [.int .i64 o.kind, .int .i64 o.left, .bool o.first, .str o.last]) ∧ (∀ o, (encO o).isAgg = true) ∧ (∀ o, (encO o).pure = true) ∧ (∀ d m O o, frz d m O (encO o) = encO o) ∧ (∀ d m O o, frzT d m O (encO o) = encO o) ∧ type_of% (q0p qde) :=
  ⟨fun _ => rfl, fun _ => rfl, fun _ => rfl, fun _ _ _ _ => rfl, fun _ _ _ _ => rfl, q0p qde⟩
theorem hO : ∀ l, encOs l = .sl 4 (l.map encO) none := fun _ => rfl
theorem qf6 : ∀ a b, encOs a = encOs b → a = b := q6q hO qde
theorem inO : Inert encO := by intro d n o x; cases d <;> rfl
theorem opnB : type_of% opnC ∧ type_of% (rowR hO) ∧ type_of% (rowS hO) ∧ type_of% (rowC hO) ∧ type_of% (q0p qf6) ∧ type_of% (q3j hO inO) :=
  ⟨opnC, rowR hO, rowS hO, rowC hO, q0p qf6, q3j hO inO⟩
def openP (o : Opn) : Bool := decide (0 < o.left)
theorem qjf (o : Opn) : FnSpec Tryz.prog f_val_Right_1 [encO o] [] (.bool (openP o)) [] := by
  unfold openP
  refine k_val_Right_1.pureG (T := tabL Tryz.prog []) 0 hD (q0e q0d) hmix (by decide) fun Q hQ => ?_
  try simp only [F_all]
  simp (maxSteps := 400000) only [↓preZ, postZ, coreZ, ↓preU, postU, D_all, F_all, unR, outL, onePV, binS, ↓binS, q03, ↓q03, q01, ↓q01, boxR, q0b, newObj, q05, q00, q06, q09, q0a, St.freeze, q02, q07, q04, BEq.rfl, reduceIte, reduceCtorEq, Nat.reduceLT, Nat.reduceAdd, Nat.reduceSub, Nat.reduceMul, Nat.reduceBEq, Nat.reduceLeDiff, Int.reduceToNat, Int.reduceLE, hQ, q7b, encO]
def q7q : Ctr := fun args objs K => match args with
  | [a0] => ofE encO a0 (HK.mk : HK fun o => K (.bool (openP o)) objs 0)
  | _ => False
theorem qgt : CtrOk Tryz.prog f_val_Right_1 (q7q) := by
  intro args objs K h
  unfold q7q at h
  split at h
  · rename_i a0
    obtain ⟨o, rfl, hk⟩ := h
    exact ⟨_, _, _, .pure _ rfl (qjf o), hk⟩
  · exact h.elim
def idxOf {α : Type} (p : α → Bool) (l : List α) : Int := match l.findIdx? p with
  | some i => i
  | none => -1
theorem qf7 {α : Type} {p : α → Bool} {l : List α} {i : Nat} {x : α} (h : l[i]? = some x) (hx : p x = true) (hb : ∀ (j : Nat) y, j < i → l[j]? = some y → p y = false) : idxOf p l = i := by
  have : l.findIdx? p = some i := by
    rw [List.findIdx?_eq_some_iff_getElem]
    obtain ⟨hi, he⟩ := List.getElem?_eq_some_iff.1 h
    refine ⟨hi, by rw [he]; exact hx, fun j hj => ?_⟩
    have := hb j _ hj (List.getElem?_eq_getElem (by omega))
    simp [this]
  simp [idxOf, this]
theorem qc6 {α : Type} {p : α → Bool} {l : List α} (hb : ∀ (j : Nat) y, l[j]? = some y → p y = false) : idxOf p l = -1 := by
  have : l.findIdx? p = none := by
    rw [List.findIdx?_eq_none_iff]
    intro x hx
    obtain ⟨i, hi⟩ := List.mem_iff_getElem?.1 hx
    exact hb i x hi
  simp [idxOf, this]
theorem qf8 {α : Type} (p : α → Bool) (l : List α) : decide (0 ≤ idxOf p l) = l.any p := by
  rw [Bool.eq_iff_iff, decide_eq_true_iff]
  cases h : l.findIdx? p with
  | none =>
    rw [List.findIdx?_eq_none_iff] at h
    have : l.any p = false := by rw [List.any_eq_false]; intro x hx; simp [h x hx]
    simp [idxOf, List.findIdx?_eq_none_iff.2 h, this]
  | some i =>
    have h' := h
    rw [List.findIdx?_eq_some_iff_getElem] at h'
    obtain ⟨hi, hp, _⟩ := h'
    have : l.any p = true := List.any_eq_true.2 ⟨_, List.getElem_mem hi, hp⟩
    simp [idxOf, h, this]
theorem qf9 (l : List Opn) (hl : l.length ≤ 4611686018427387904) : FnSpec Tryz.prog f_slices_IndexFunc_L_val_open_val_open_ [encOs l, .fn f_val_Right_1 [] []] [] (.int .i64 (idxOf openP l)) [] := by
  refine k_slices_IndexFunc_L_val_open_val_open_.pureG (T := tabL Tryz.prog [(f_val_Right_1, q7q)]) 0 hD (q0e (q0c qgt q0d)) hmix (by decide) fun Q hQ => ?_
  try simp only [F_all]
  simp (maxSteps := 400000) only [↓preZ, postZ, coreZ, ↓preU, postU, D_all, F_all, unR, outL, onePV, binS, ↓binS, q03, ↓q03, q01, ↓q01, boxR, q0b, newObj, q05, q00, q06, q09, q0a, St.freeze, q02, q07, q04, BEq.rfl, reduceIte, reduceCtorEq, Nat.reduceLT, Nat.reduceAdd, Nat.reduceSub, Nat.reduceMul, Nat.reduceBEq, Nat.reduceLeDiff, Int.reduceToNat, Int.reduceLE, hQ, q0z, opnB]
  refine q0q (fun m S => ∃ i : Nat, i + m = l.length ∧ (∀ (j : Nat) y, j < i → l[j]? = some y → openP y = false) ∧ S = ⟨tmA 19 [(0, encOs l), (1, .fn f_val_Right_1 [] []), (7, .int .i64 l.length), (8, .int .i64 i)], []⟩) l.length ⟨0, by omega, fun j y h => absurd h (Nat.not_lt_zero j), ?_⟩ ?_
  · simp only [normR, keepR, Nat.reduceAdd, lkR, Nat.reduceBEq, F_all, List.map_nil]
    rfl
  rintro m S ⟨i, him, hb, rfl⟩
  rcases Nat.lt_or_ge i l.length with h | h
  rotate_left 1
  · have hlt : ((i : Int) < (l.length : Int)) = False := eq_false (by omega)
    have hr := qc6 (l := l) fun j y hj => hb j y (by have := (List.getElem?_eq_some_iff.1 hj).1; omega) hj
    simp (maxSteps := 400000) only [↓preZ, postZ, coreZ, ↓preU, postU, D_all, F_all, unR, outL, onePV, binS, ↓binS, q03, ↓q03, q01, ↓q01, boxR, q0b, newObj, q05, q00, q06, q09, q0a, St.freeze, q02, q07, q04, BEq.rfl, reduceIte, reduceCtorEq, Nat.reduceLT, Nat.reduceAdd, Nat.reduceSub, Nat.reduceMul, Nat.reduceBEq, Nat.reduceLeDiff, Int.reduceToNat, Int.reduceLE, hQ, hlt, hr]
  have hlt : ((i : Int) < (l.length : Int)) = True := eq_true (by omega)
  have zi : (0 ≤ (i : Int)) = True := eq_true (by omega)
  have hgi := List.getElem?_eq_getElem h
  generalize l[i] = o at hgi
  cases hp : openP o
  rotate_left 1
  · have hr : idxOf openP l = i := qf7 hgi hp hb
    simp (maxSteps := 400000) only [↓preZ, postZ, coreZ, ↓preU, postU, D_all, F_all, unR, outL, onePV, binS, ↓binS, q03, ↓q03, q01, ↓q01, boxR, q0b, newObj, q05, q00, q06, q09, q0a, St.freeze, q02, q07, q04, BEq.rfl, reduceIte, reduceCtorEq, Nat.reduceLT, Nat.reduceAdd, Nat.reduceSub, Nat.reduceMul, Nat.reduceBEq, Nat.reduceLeDiff, Int.reduceToNat, Int.reduceLE, hQ, hlt, zi, opnB, hgi, ↓q7q, hp, hr]
  · simp (maxSteps := 400000) only [↓preZ, postZ, coreZ, ↓preU, postU, D_all, F_all, unR, outL, onePV, binS, ↓binS, q03, ↓q03, q01, ↓q01, boxR, q0b, newObj, q05, q00, q06, q09, q0a, St.freeze, q02, q07, q04, BEq.rfl, reduceIte, reduceCtorEq, Nat.reduceLT, Nat.reduceAdd, Nat.reduceSub, Nat.reduceMul, Nat.reduceBEq, Nat.reduceLeDiff, Int.reduceToNat, Int.reduceLE, hQ, hlt, zi, opnB, hgi, ↓q7q, hp]
    refine ⟨⟨by omega, by omega⟩, m - 1, by omega, i + 1, by omega, fun j y hj hy => ?_, rfl⟩
    rcases Nat.lt_or_ge j i with g | g
    · exact hb j y g hy
    · have : j = i := by omega
      subst this
      rw [hgi] at hy; cases hy
      exact hp
def q61 : Ctr := fun args objs K => match args with
  | [a0, a1] => ofE encOs a0 (HK.mk : HK fun l => a1 = (.fn f_val_Right_1 [] []) ∧ (l.length ≤ 4611686018427387904) ∧ K (.int .i64 (idxOf openP l)) objs 0)
  | _ => False
theorem qdf : CtrOk Tryz.prog f_slices_IndexFunc_L_val_open_val_open_ (q61) := by
  intro args objs K h
  unfold q61 at h
  split at h
  · rename_i a0 a1
    obtain ⟨l, rfl, rfl, h1, hk⟩ := h
    exact ⟨_, _, _, .pure _ rfl (qf9 l h1), hk⟩
  · exact h.elim
theorem qfa (l : List Opn) (hl : l.length ≤ 4611686018427387904) : FnSpec Tryz.prog f_slices_ContainsFunc_L_val_open_val_open_ [encOs l, .fn f_val_Right_1 [] []] [] (.bool (l.any openP)) [] := by
  refine k_slices_ContainsFunc_L_val_open_val_open_.pureG (T := tabL Tryz.prog [(f_slices_IndexFunc_L_val_open_val_open_, q61)]) 0 hD (q0e (q0c qdf q0d)) hmix (by decide) fun Q hQ => ?_
  try simp only [F_all]
  simp (maxSteps := 400000) only [↓preZ, postZ, coreZ, ↓preU, postU, D_all, F_all, unR, outL, onePV, binS, ↓binS, q03, ↓q03, q01, ↓q01, boxR, q0b, newObj, q05, q00, q06, q09, q0a, St.freeze, q02, q07, q04, BEq.rfl, reduceIte, reduceCtorEq, Nat.reduceLT, Nat.reduceAdd, Nat.reduceSub, Nat.reduceMul, Nat.reduceBEq, Nat.reduceLeDiff, Int.reduceToNat, Int.reduceLE, hQ, q0u, opnB, ↓q61, qf8]
  exact hl
def q62 : Ctr := fun args objs K => match args with
  | [a0, a1] => ofE encOs a0 (HK.mk : HK fun l => a1 = (.fn f_val_Right_1 [] []) ∧ (l.length ≤ 4611686018427387904) ∧ K (.bool (l.any openP)) objs 0)
  | _ => False
theorem qdg : CtrOk Tryz.prog f_slices_ContainsFunc_L_val_open_val_open_ (q62) := by
  intro args objs K h
  unfold q62 at h
  split at h
  · rename_i a0 a1
    obtain ⟨l, rfl, rfl, h1, hk⟩ := h
    exact ⟨_, _, _, .pure _ rfl (qfa l h1), hk⟩
  · exact h.elim
theorem q44 (objs : List Obj) (K : KT) :
    (∀ k m, q1m D t_val_open [(0, .int .i64 k), (1, .int .i64 m)] objs K = K (encO ⟨k, m, false, []⟩) objs 0) ∧
    (∀ k m b, q1m D t_val_open [(0, .int .i64 k), (1, .int .i64 m), (2, .bool b)] objs K = K (encO ⟨k, m, b, []⟩) objs 0) := by
  have z : q05 (D t_val_open) = encO ⟨0, 0, false, []⟩ := by kernel_rfl
  have a : (D t_val_open).agg = true := by kernel_rfl
  simp only [D_all] at z a
  refine ⟨fun k m => ?_, fun k m b => ?_⟩
  all_goals
    simp [q1m, q8c, a, z, D_all, fillR, encO, PV.isAgg, qhh, PV.cells, PV.storable, PV.solid, PV.pure]
theorem zOl : (PV.ofV (Value.agg { toList := [Value.int IntKind.i64 0, Value.int IntKind.i64 0, Value.bool false, Value.string { data := { toList := [] } }] })).cells.length = 4 := rfl
theorem zOs : (PV.ofV (Value.agg { toList := [Value.int IntKind.i64 0, Value.int IntKind.i64 0, Value.bool false, Value.string { data := { toList := [] } }] })).cells.all PV.storable = true := rfl
def stkO (s : List Opn) (ver : Nat) : Obj := ⟨t_val_open, 4, s.reverse.map encO, true, ver⟩
theorem qax : (∀ (o : Opn) (m : Int), (encO o).putCells 1 [.int .i64 m] = encO { o with left := m }) ∧ (∀ (o : Opn) (b : Bool), (encO o).putCells 2 [.bool b] = encO { o with first := b }) ∧ (∀ (o : Opn) (t : List UInt8), (encO o).putCells 3 [.str t] = encO { o with last := t }) := ⟨fun _ _ => rfl, fun _ _ => rfl, fun _ _ => rfl⟩
theorem qdh (d n : Nat) (O : List Obj) (t : TypeId) (sz : Nat) (l : List Opn) (ver : Nat) : frzO d n O ⟨t, sz, l.map encO, true, ver⟩ = ⟨t, sz, l.map encO, true, ver⟩ := by
  have : (l.map encO).map (PV.mapCells (frz d n O)) = l.map encO := by
    rw [List.map_map]
    exact List.map_congr_left fun x _ => rfl
  simp only [frzO, this]
theorem qdi (v : Vl) (hs : Small v) : FnSpec Tryz.prog f_val_Right [encV v] [] (.bool (q12 v)) [] := by
  have hl := hs.len
  refine k_val_Right.pureG (T := tabL Tryz.prog [(f_val_isPlain, q1b), (f_unicode_utf8_ValidString, q11), (f_slices_ContainsFunc_L_val_open_val_open_, q62)]) 1 hD (q0e (q0c qdd (q0c q8s (q0c qdg q0d)))) hmix (by decide) fun Q hQ => ?_
  try simp only [F_all]
  simp (maxSteps := 400000) only [↓preZ, postZ, coreZ, ↓preU, postU, D_all, F_all, unR, outL, onePV, binS, ↓binS, q03, ↓q03, q01, ↓q01, boxR, q0b, newObj, q05, q00, q06, q09, q0a, St.freeze, q02, q07, q04, BEq.rfl, reduceIte, reduceCtorEq, Nat.reduceLT, Nat.reduceAdd, Nat.reduceSub, Nat.reduceMul, Nat.reduceBEq, Nat.reduceLeDiff, Int.reduceToNat, Int.reduceLE, hQ, qad, zNl, zNs, q44, zOl, zOs, opnC]
  refine q0q (fun m S => ∃ (s : List Opn) (i ver : Nat), i + m = v.length ∧ runR v.length s (v.drop i) = q12 v ∧ s.length ≤ i + 1 ∧ (∀ o ∈ s, 0 ≤ o.left ∧ o.left ≤ 1000000) ∧ S = ⟨tmA 123 [(0, encV v), (3, .osl 0 ver), (10, encV v), (11, .int .i64 v.length), (12, .int .i64 i)], [stkO s ver]⟩) v.length
    ⟨[⟨5, 1, false, []⟩], 0, 1, by omega, qi5 v, by simp, by simp, ?_⟩ ?_ (hz := Nat.zero_le _)
  · simp only [normR, keepR, Nat.reduceAdd, lkR, Nat.reduceBEq, F_all, List.map_nil]
    rfl
  rintro m S ⟨s, i, ver, him, hrun, hsl, hle, rfl⟩
  rcases Nat.lt_or_ge i v.length with h | h
  rotate_left 1
  · have hlt : ((i : Int) < (v.length : Int)) = False := eq_false (by omega)
    have hr : q12 v = Bool.not (s.any openP) := by
      rw [← hrun, List.drop_eq_nil_of_le h, runR]; rfl
    have hf : frz 1 0 [⟨t_val_open, 4, s.reverse.map encO, true, ver⟩] (.osl 0 ver) = encOs s.reverse := by
      simp only [frz, Nat.not_lt_zero, if_false, frzI, List.getElem?_cons_zero, Nat.le_refl, decide_true, Bool.true_and, beq_self_eq_true, if_true]
      rw [List.map_map]
      rfl
    unfold stkO
    simp (maxSteps := 400000) only [↓preZ, postZ, coreZ, ↓preU, postU, D_all, F_all, unR, outL, onePV, binS, ↓binS, q03, ↓q03, q01, ↓q01, boxR, q0b, newObj, q05, q00, q06, q09, q0a, St.freeze, q02, q07, q04, BEq.rfl, reduceIte, reduceCtorEq, Nat.reduceLT, Nat.reduceAdd, Nat.reduceSub, Nat.reduceMul, Nat.reduceBEq, Nat.reduceLeDiff, Int.reduceToNat, Int.reduceLE, hQ, hlt]
    refine q0m _ (Weak.freeze 1 0 (Nat.zero_le _) _) ?_
    rcases Nat.eq_zero_or_pos v.length with h0 | h0
    · have h0' : ((0 : Int) < (v.length : Int)) = False := eq_false (by omega)
      have hrf : q12 v = false := by
        have : v = [] := List.length_eq_zero_iff.1 h0
        rw [this]; rfl
      simp (maxSteps := 400000) only [↓preZ, postZ, coreZ, ↓preU, postU, D_all, F_all, unR, outL, onePV, binS, ↓binS, q03, ↓q03, q01, ↓q01, boxR, q0b, newObj, q05, q00, q06, q09, q0a, St.freeze, q02, q07, q04, BEq.rfl, reduceIte, reduceCtorEq, Nat.reduceLT, Nat.reduceAdd, Nat.reduceSub, Nat.reduceMul, Nat.reduceBEq, Nat.reduceLeDiff, Int.reduceToNat, Int.reduceLE, hQ, h0', hrf]
    · have h0' : ((0 : Int) < (v.length : Int)) = True := eq_true (by omega)
      simp (maxSteps := 400000) only [↓preZ, postZ, coreZ, ↓preU, postU, D_all, F_all, unR, outL, onePV, binS, ↓binS, q03, ↓q03, q01, ↓q01, boxR, q0b, newObj, q05, q00, q06, q09, q0a, St.freeze, q02, q07, q04, BEq.rfl, reduceIte, reduceCtorEq, Nat.reduceLT, Nat.reduceAdd, Nat.reduceSub, Nat.reduceMul, Nat.reduceBEq, Nat.reduceLeDiff, Int.reduceToNat, Int.reduceLE, hQ, h0', hf, opnB, ↓q62]
      exact ⟨by rw [List.length_reverse]; omega, by rw [hr, List.any_reverse]⟩
  have hlt : ((i : Int) < (v.length : Int)) = True := eq_true (by omega)
  have zi : (0 ≤ (i : Int)) = True := eq_true (by omega)
  have hgi := List.getElem?_eq_getElem h
  have hdi := List.drop_eq_getElem_cons h
  have htx := hs.txt _ (List.getElem_mem h)
  generalize v[i] = n at hgi hdi htx
  simp (maxSteps := 400000) only [↓preZ, postZ, coreZ, ↓preU, postU, D_all, F_all, unR, outL, onePV, binS, ↓binS, q03, ↓q03, q01, ↓q01, boxR, q0b, newObj, q05, q00, q06, q09, q0a, St.freeze, q02, q07, q04, BEq.rfl, reduceIte, reduceCtorEq, Nat.reduceLT, Nat.reduceAdd, Nat.reduceSub, Nat.reduceMul, Nat.reduceBEq, Nat.reduceLeDiff, Int.reduceToNat, Int.reduceLE, hQ, hlt, zi, hgi, zNl, zNs, nodeZ, nodeW]
  rw [hdi] at hrun
  have hll : (n.many ≤ (v.length : Int)) = (n.many ≤ (v.length : Int)) := rfl
  refine q0q (fun m' S => ∃ (s' : List Opn) (ver' : Nat), s'.length = m' ∧ s'.dropWhile (fun o => o.left == 0) = s.dropWhile (fun o => o.left == 0) ∧ s'.length ≤ i + 1 ∧ (∀ o ∈ s', 0 ≤ o.left ∧ o.left ≤ 1000000) ∧
    S = ⟨tmA 123 [(0, encV v), (3, .osl 0 ver'), (5, .optr 1 1 0 0), (10, encV v), (11, .int .i64 v.length), (12, .int .i64 i)], [stkO s' ver', ⟨t_api_Node, 6, [encN n], true, 1⟩]⟩) s.length ⟨s, ver, rfl, rfl, hsl, hle, ?_⟩ ?_
  · simp only [normR, keepR, Nat.reduceAdd, lkR, Nat.reduceBEq, F_all, List.map_nil]
  rintro m' S ⟨s', ver', hm', hdw, hsl', hle', rfl⟩
  cases s' with
  | nil =>
    have h00 : ((0 : Int) < ((0 : Nat) : Int)) = False := eq_false (by omega)
    have h01 : (((0 : Nat) : Int) = 0) = True := eq_true rfl
    have hr : q12 v = false := by rw [← hrun, runR, ← hdw]; rfl
    unfold stkO
    simp (maxSteps := 400000) only [↓preZ, postZ, coreZ, ↓preU, postU, D_all, F_all, unR, outL, onePV, binS, ↓binS, q03, ↓q03, q01, ↓q01, boxR, q0b, newObj, q05, q00, q06, q09, q0a, St.freeze, q02, q07, q04, BEq.rfl, reduceIte, reduceCtorEq, Nat.reduceLT, Nat.reduceAdd, Nat.reduceSub, Nat.reduceMul, Nat.reduceBEq, Nat.reduceLeDiff, Int.reduceToNat, Int.reduceLE, hQ, h00, h01, hr, List.reverse_nil]
  | cons o t =>
  have hst : ∀ w, stkO (o :: t) w = ⟨t_val_open, 4, t.reverse.map encO ++ [encO o], true, w⟩ := fun w => by simp [stkO]
  have hget : ∀ x : PV, (t.reverse.map encO ++ [x])[t.length]? = some x := fun x => by rw [List.getElem?_append_right (by simp)]; simp
  have hset : ∀ x y : PV, (t.reverse.map encO ++ [x]).set t.length y = t.reverse.map encO ++ [y] := fun x y => by rw [List.set_append_right _ _ (by simp)]; simp
  have hpos : ((0 : Int) < ((t.length + 1 : Nat) : Int)) = True := eq_true (by omega)
  have hne0 : (((t.length + 1 : Nat) : Int) = 0) = False := eq_false (by omega)
  have t1 : (((t.length + 1 : Nat) : Int) - 1).toNat = t.length := by omega
  have z1 : (0 ≤ ((t.length + 1 : Nat) : Int) - 1) = True := eq_true (by omega)
  have lt1 : (((t.length + 1 : Nat) : Int) - 1 < ((t.length + 1 : Nat) : Int)) = True := eq_true (by omega)
  have le1 : (((t.length + 1 : Nat) : Int) - 1 ≤ ((t.length + 1 : Nat) : Int)) = True := eq_true (by omega)
  simp only [List.length_cons] at hsl' hm'
  have i1 : (-9223372036854775808 ≤ ((t.length + 1 : Nat) : Int) - 1 ∧ ((t.length + 1 : Nat) : Int) - 1 ≤ 9223372036854775807) = True := eq_true ⟨by omega, by omega⟩
  have hlo := hle' o (by simp)
  by_cases h0 : o.left = 0
  · have h0' : (o.left = 0) = True := eq_true h0
    rw [hst]
    simp (maxSteps := 400000) only [↓preZ, postZ, coreZ, ↓preU, postU, D_all, F_all, unR, outL, onePV, binS, ↓binS, q03, ↓q03, q01, ↓q01, boxR, q0b, newObj, q05, q00, q06, q09, q0a, St.freeze, q02, q07, q04, BEq.rfl, reduceIte, reduceCtorEq, Nat.reduceLT, Nat.reduceAdd, Nat.reduceSub, Nat.reduceMul, Nat.reduceBEq, Nat.reduceLeDiff, Int.reduceToNat, Int.reduceLE, hQ, hpos, t1, z1, lt1, le1, i1, hget, hset, h0', opnC, List.length_reverse]
    refine ⟨m' - 1, by omega, t, ver' + 1, by omega, ?_, by omega, fun x hx => hle' x (List.mem_cons_of_mem _ hx), ?_⟩
    · rw [← hdw]; exact (List.dropWhile_cons_of_pos (by simpa using h0)).symm
    · rw [List.take_left' (by simp)]; rfl
  have h0' : (o.left = 0) = False := eq_false h0
  have hdw' : s.dropWhile (fun o => o.left == 0) = o :: t := by rw [← hdw]; exact List.dropWhile_cons_of_neg (by simpa using h0)
  have hstep : q12 v = (q0n n && decide (n.many ≤ v.length) && q1h o n.name && runR v.length (⟨n.kind, n.many, true, []⟩ :: ⟨o.kind, o.left - 1, false, n.name⟩ :: t) (v.drop (i + 1))) := by
    rw [← hrun, runR, hdw']
  rw [hst]
  cases hpl : q0n n
  · have hr : q12 v = false := by rw [hstep, hpl]; rfl
    simp (maxSteps := 400000) only [↓preZ, postZ, coreZ, ↓preU, postU, D_all, F_all, unR, outL, onePV, binS, ↓binS, q03, ↓q03, q01, ↓q01, boxR, q0b, newObj, q05, q00, q06, q09, q0a, St.freeze, q02, q07, q04, BEq.rfl, reduceIte, reduceCtorEq, Nat.reduceLT, Nat.reduceAdd, Nat.reduceSub, Nat.reduceMul, Nat.reduceBEq, Nat.reduceLeDiff, Int.reduceToNat, Int.reduceLE, hQ, hpos, hne0, t1, z1, lt1, le1, i1, hget, hset, h0', opnC, List.length_reverse, ↓q1b, hpl, hr]
    exact htx.1
  by_cases hmL : n.many ≤ v.length
  rotate_left 1
  · have hmL' : ((v.length : Int) < n.many) = True := eq_true (by omega)
    have hr : q12 v = false := by rw [hstep, decide_eq_false hmL]; simp
    simp (maxSteps := 400000) only [↓preZ, postZ, coreZ, ↓preU, postU, D_all, F_all, unR, outL, onePV, binS, ↓binS, q03, ↓q03, q01, ↓q01, boxR, q0b, newObj, q05, q00, q06, q09, q0a, St.freeze, q02, q07, q04, BEq.rfl, reduceIte, reduceCtorEq, Nat.reduceLT, Nat.reduceAdd, Nat.reduceSub, Nat.reduceMul, Nat.reduceBEq, Nat.reduceLeDiff, Int.reduceToNat, Int.reduceLE, hQ, hpos, hne0, t1, z1, lt1, le1, i1, hget, hset, h0', opnC, List.length_reverse, ↓q1b, hpl, hmL', hr]
    exact htx.1
  have hmL' : ((v.length : Int) < n.many) = False := eq_false (by omega)
  have hm0 : 0 ≤ n.many := by
    by_cases hk : n.kind = 5 ∨ n.kind = 6
    · exact (q9m hpl hk).1
    · rw [q5r hpl hk]; exact Int.le_refl 0
  have hA : ∀ x y : Opn, t.reverse.map encO ++ [encO x] ++ [encO y] = (t.reverse ++ [x, y]).map encO := fun x y => by simp
  have fin : ∀ hn : q1h o n.name = true, ∃ m'_1, m'_1 < m ∧ ∃ (s : List Opn) (i_1 ver : Nat), i_1 + m'_1 = v.length ∧ runR v.length s (v.drop i_1) = q12 v ∧ s.length ≤ i_1 + 1 ∧ (∀ o ∈ s, 0 ≤ o.left ∧ o.left ≤ 1000000) ∧
      (⟨tmA 123 [(0, encV v), (3, .osl 0 (ver' + 1)), (10, encV v), (11, .int .i64 v.length), (12, .int .i64 ((i : Int) + 1))], [⟨t_val_open, 4, t.reverse.map encO ++ [encO ⟨o.kind, o.left - 1, false, n.name⟩] ++ [encO ⟨n.kind, n.many, true, []⟩], true, ver' + 1⟩]⟩ : St) =
      ⟨tmA 123 [(0, encV v), (3, .osl 0 ver), (10, encV v), (11, .int .i64 v.length), (12, .int .i64 i_1)], [stkO s ver]⟩ := fun hn => by
    refine ⟨m - 1, by omega, ⟨n.kind, n.many, true, []⟩ :: ⟨o.kind, o.left - 1, false, n.name⟩ :: t, i + 1, ver' + 1, by omega, ?_, by simp only [List.length_cons]; omega, fun x hx => ?_, ?_⟩
    · rw [hstep, hpl, hn, decide_eq_true hmL]; simp
    · rcases List.mem_cons.1 hx with rfl | hx
      · exact ⟨hm0, by simp only; omega⟩
      · rcases List.mem_cons.1 hx with rfl | hx
        · simp only; omega
        · exact hle' x (List.mem_cons_of_mem _ hx)
    · simp [stkO]
  by_cases k6 : o.kind = 6
  rotate_left 1
  · have k6' : (o.kind = 6) = False := eq_false k6
    by_cases hnm : n.name = []
    rotate_left 1
    · have hnm' : (n.name = []) = False := eq_false hnm
      have hr : q12 v = false := by
        have : q1h o n.name = false := by simp [q1h, k6, hnm]
        rw [hstep, this]; simp
      simp (maxSteps := 400000) only [↓preZ, postZ, coreZ, ↓preU, postU, D_all, F_all, unR, outL, onePV, binS, ↓binS, q03, ↓q03, q01, ↓q01, boxR, q0b, newObj, q05, q00, q06, q09, q0a, St.freeze, q02, q07, q04, BEq.rfl, reduceIte, reduceCtorEq, Nat.reduceLT, Nat.reduceAdd, Nat.reduceSub, Nat.reduceMul, Nat.reduceBEq, Nat.reduceLeDiff, Int.reduceToNat, Int.reduceLE, hQ, hpos, hne0, t1, z1, lt1, le1, i1, hget, hset, h0', opnC, List.length_reverse, ↓q1b, hpl, hmL', k6', q0s, qax, q44, zOl, zOs, hnm', hr]
      exact htx.1
    · have hnm' : (n.name = []) = True := eq_true hnm
      simp (maxSteps := 400000) only [↓preZ, postZ, coreZ, ↓preU, postU, D_all, F_all, unR, outL, onePV, binS, ↓binS, q03, ↓q03, q01, ↓q01, boxR, q0b, newObj, q05, q00, q06, q09, q0a, St.freeze, q02, q07, q04, BEq.rfl, reduceIte, reduceCtorEq, Nat.reduceLT, Nat.reduceAdd, Nat.reduceSub, Nat.reduceMul, Nat.reduceBEq, Nat.reduceLeDiff, Int.reduceToNat, Int.reduceLE, hQ, hpos, hne0, t1, z1, lt1, le1, i1, hget, hset, h0', opnC, List.length_reverse, ↓q1b, hpl, hmL', k6', q0s, qax, q44, zOl, zOs, hnm']
      have hn : q1h o n.name = true := by simp [q1h, k6, hnm]
      obtain ⟨m1, e0, s1, j1, w1, e1, e2, e3, e4, e5⟩ := fin hn
      refine ⟨htx.1, ⟨by omega, by omega⟩, rfl, by omega, by omega, ⟨by omega, by omega⟩, m1, e0, s1, j1, w1, e1, e2, e3, e4, ?_⟩
      rw [← e5]
      simp only [hA, List.take_succ_cons, List.take_zero, List.map_cons (f := frzO _ _ _), List.map_nil, qdh]
      rfl
  have k6' : (o.kind = 6) = True := eq_true k6
  cases hu : utf n.name
  · have hr : q12 v = false := by
      have : q1h o n.name = false := by simp [q1h, k6, hu]
      rw [hstep, this]; simp
    simp (maxSteps := 400000) only [↓preZ, postZ, coreZ, ↓preU, postU, D_all, F_all, unR, outL, onePV, binS, ↓binS, q03, ↓q03, q01, ↓q01, boxR, q0b, newObj, q05, q00, q06, q09, q0a, St.freeze, q02, q07, q04, BEq.rfl, reduceIte, reduceCtorEq, Nat.reduceLT, Nat.reduceAdd, Nat.reduceSub, Nat.reduceMul, Nat.reduceBEq, Nat.reduceLeDiff, Int.reduceToNat, Int.reduceLE, hQ, hpos, hne0, t1, z1, lt1, le1, i1, hget, hset, h0', opnC, List.length_reverse, ↓q1b, hpl, hmL', k6', q0s, qax, q44, zOl, zOs, ↓q11, hu, hr]
    exact ⟨htx.1, htx.2⟩
  cases hfst : o.first
  rotate_left 1
  · have hn : q1h o n.name = true := by simp [q1h, k6, hu, hfst]
    simp (maxSteps := 400000) only [↓preZ, postZ, coreZ, ↓preU, postU, D_all, F_all, unR, outL, onePV, binS, ↓binS, q03, ↓q03, q01, ↓q01, boxR, q0b, newObj, q05, q00, q06, q09, q0a, St.freeze, q02, q07, q04, BEq.rfl, reduceIte, reduceCtorEq, Nat.reduceLT, Nat.reduceAdd, Nat.reduceSub, Nat.reduceMul, Nat.reduceBEq, Nat.reduceLeDiff, Int.reduceToNat, Int.reduceLE, hQ, hpos, hne0, t1, z1, lt1, le1, i1, hget, hset, h0', opnC, List.length_reverse, ↓q1b, hpl, hmL', k6', q0s, qax, q44, zOl, zOs, ↓q11, hu, hfst]
    obtain ⟨m1, e0, s1, j1, w1, e1, e2, e3, e4, e5⟩ := fin hn
    refine ⟨htx.1, htx.2, ⟨by omega, by omega⟩, rfl, by omega, by omega, ⟨by omega, by omega⟩, m1, e0, s1, j1, w1, e1, e2, e3, e4, ?_⟩
    rw [← e5]
    simp only [hA, List.take_succ_cons, List.take_zero, List.map_cons (f := frzO _ _ _), List.map_nil, qdh]
    rfl
  cases hbl : Op.bytesLess n.name o.last
  rotate_left 1
  · have hr : q12 v = false := by
      have : q1h o n.name = false := by simp [q1h, k6, hu, hfst, q3o _ _ hbl]
      rw [hstep, this]; simp
    simp (maxSteps := 400000) only [↓preZ, postZ, coreZ, ↓preU, postU, D_all, F_all, unR, outL, onePV, binS, ↓binS, q03, ↓q03, q01, ↓q01, boxR, q0b, newObj, q05, q00, q06, q09, q0a, St.freeze, q02, q07, q04, BEq.rfl, reduceIte, reduceCtorEq, Nat.reduceLT, Nat.reduceAdd, Nat.reduceSub, Nat.reduceMul, Nat.reduceBEq, Nat.reduceLeDiff, Int.reduceToNat, Int.reduceLE, hQ, hpos, hne0, t1, z1, lt1, le1, i1, hget, hset, h0', opnC, List.length_reverse, ↓q1b, hpl, hmL', k6', q0s, qax, q44, zOl, zOs, ↓q11, hu, hfst, hbl, hr]
    exact ⟨htx.1, htx.2⟩
  by_cases heq : n.name = o.last
  · have heq' : (n.name = o.last) = True := eq_true heq
    have hr : q12 v = false := by
      have : q1h o n.name = false := by simp [q1h, k6, hu, hfst, heq, q1d]
      rw [hstep, this]; simp
    simp (maxSteps := 400000) only [↓preZ, postZ, coreZ, ↓preU, postU, D_all, F_all, unR, outL, onePV, binS, ↓binS, q03, ↓q03, q01, ↓q01, boxR, q0b, newObj, q05, q00, q06, q09, q0a, St.freeze, q02, q07, q04, BEq.rfl, reduceIte, reduceCtorEq, Nat.reduceLT, Nat.reduceAdd, Nat.reduceSub, Nat.reduceMul, Nat.reduceBEq, Nat.reduceLeDiff, Int.reduceToNat, Int.reduceLE, hQ, hpos, hne0, t1, z1, lt1, le1, i1, hget, hset, h0', opnC, List.length_reverse, ↓q1b, hpl, hmL', k6', q0s, qax, q44, zOl, zOs, ↓q11, hu, hfst, hbl, heq', hr]
    exact ⟨htx.1, htx.2⟩
  · have heq' : (n.name = o.last) = False := eq_false heq
    have hn : q1h o n.name = true := by
      have : Op.bytesLess o.last n.name = true := by
        rcases qdu o.last n.name with g | g | g
        · exact g
        · exact absurd g.symm heq
        · rw [g] at hbl; cases hbl
      simp [q1h, k6, hu, this]
    simp (maxSteps := 400000) only [↓preZ, postZ, coreZ, ↓preU, postU, D_all, F_all, unR, outL, onePV, binS, ↓binS, q03, ↓q03, q01, ↓q01, boxR, q0b, newObj, q05, q00, q06, q09, q0a, St.freeze, q02, q07, q04, BEq.rfl, reduceIte, reduceCtorEq, Nat.reduceLT, Nat.reduceAdd, Nat.reduceSub, Nat.reduceMul, Nat.reduceBEq, Nat.reduceLeDiff, Int.reduceToNat, Int.reduceLE, hQ, hpos, hne0, t1, z1, lt1, le1, i1, hget, hset, h0', opnC, List.length_reverse, ↓q1b, hpl, hmL', k6', q0s, qax, q44, zOl, zOs, ↓q11, hu, hfst, hbl, heq']
    obtain ⟨m1, e0, s1, j1, w1, e1, e2, e3, e4, e5⟩ := fin hn
    refine ⟨htx.1, htx.2, ⟨by omega, by omega⟩, rfl, by omega, by omega, ⟨by omega, by omega⟩, m1, e0, s1, j1, w1, e1, e2, e3, e4, ?_⟩
    rw [← e5]
    simp only [hA, List.take_succ_cons, List.take_zero, List.map_cons (f := frzO _ _ _), List.map_nil, qdh]
    rfl
def q3m : Ctr := fun args objs K => match args with
  | [a0] => ofE encV a0 (HK.mk : HK fun v => (Small v) ∧ K (.bool (q12 v)) objs 0)
  | _ => False
theorem qbj : CtrOk Tryz.prog f_val_Right (q3m) := by
  intro args objs K h
  unfold q3m at h
  split at h
  · rename_i a0
    obtain ⟨v, rfl, h1, hk⟩ := h
    exact ⟨_, _, _, .pure _ rfl (qdi v h1), hk⟩
  · exact h.elim
end Lp

/-! LpE1 -/

namespace Lp
open Go Go.Proofs
set_option maxHeartbeats 4000000
set_option maxRecDepth 20000
set_option linter.unusedSimpArgs false
def NdSm (n : Nd) : Prop := n.s.length ≤ 4611686018427387904 ∧ n.name.length ≤ 4611686018427387904
theorem NdSm.small {n : Nd} (h : NdSm n) : Small [n] := ⟨by simp, fun m hm => by rw [List.mem_singleton] at hm; subst hm; exact h⟩
theorem qgu (n : Nd) (h : NdSm n) : FnSpec Tryz.prog f_atom_isPlain [encN n] [] (.bool (scalB n)) [] := by
  unfold scalB
  refine k_atom_isPlain.pureG (T := tabL Tryz.prog [(f_val_Right, q3m)]) 0 hD (q0e (q0c qbj q0d)) hmix (by decide) fun Q hQ => ?_
  try simp only [F_all]
  simp (maxSteps := 400000) only [↓preZ, postZ, coreZ, ↓preU, postU, ↓preA, postA, D_all, F_all, unR, outL, onePV, binS, ↓binS, q03, ↓q03, q01, ↓q01, boxR, q0b, newObj, q05, q00, q06, q09, q0a, St.freeze, q02, q07, q04, BEq.rfl, reduceIte, reduceCtorEq, Nat.reduceLT, Nat.reduceAdd, Nat.reduceSub, Nat.reduceMul, Nat.reduceBEq, Nat.reduceLeDiff, Int.reduceToNat, Int.reduceLE, hQ, q6d]
  refine q0m _ (Weak.freeze 1 0 (Nat.zero_le _) _) ?_
  rcases tf (n.kind < 5) with hk | hk
  · simp (maxSteps := 400000) only [↓preZ, postZ, coreZ, ↓preU, postU, ↓preA, postA, D_all, F_all, unR, outL, onePV, binS, ↓binS, q03, ↓q03, q01, ↓q01, boxR, q0b, newObj, q05, q00, q06, q09, q0a, St.freeze, q02, q07, q04, BEq.rfl, reduceIte, reduceCtorEq, Nat.reduceLT, Nat.reduceAdd, Nat.reduceSub, Nat.reduceMul, Nat.reduceBEq, Nat.reduceLeDiff, Int.reduceToNat, Int.reduceLE, hQ, frzC0, hk, ↓q3m, nodeZ, nodeW, Bool.false_and]
    exact h.small
  · simp (maxSteps := 400000) only [↓preZ, postZ, coreZ, ↓preU, postU, ↓preA, postA, D_all, F_all, unR, outL, onePV, binS, ↓binS, q03, ↓q03, q01, ↓q01, boxR, q0b, newObj, q05, q00, q06, q09, q0a, St.freeze, q02, q07, q04, BEq.rfl, reduceIte, reduceCtorEq, Nat.reduceLT, Nat.reduceAdd, Nat.reduceSub, Nat.reduceMul, Nat.reduceBEq, Nat.reduceLeDiff, Int.reduceToNat, Int.reduceLE, hQ, frzC0, hk, ↓q3m, nodeZ, nodeW, Bool.false_and]
def q2v : Ctr := fun args objs K => match args with
  | [a0] => ofE encN a0 (HK.mk : HK fun n => (NdSm n) ∧ K (.bool (scalB n)) objs 0)
  | _ => False
theorem q8t : CtrOk Tryz.prog f_atom_isPlain (q2v) := by
  intro args objs K h
  unfold q2v at h
  split at h
  · rename_i a0
    obtain ⟨n, rfl, h1, hk⟩ := h
    exact ⟨_, _, _, .pure _ rfl (qgu n h1), hk⟩
  · exact h.elim
theorem qgv (n : Nd) (h : NdSm n) : FnSpec Tryz.prog f_louperef11_plain [encN n] [] (.bool (scalB n)) [] := by
  unfold scalB
  refine k_louperef11_plain.pureG (T := tabL Tryz.prog [(f_louperef02_Right, q7h)]) 0 hD (q0e (q0c qgg q0d)) hmix (by decide) fun Q hQ => ?_
  try simp only [F_all]
  simp (maxSteps := 400000) only [↓preZ, postZ, coreZ, ↓preU, postU, ↓preA, postA, D_all, F_all, unR, outL, onePV, binS, ↓binS, q03, ↓q03, q01, ↓q01, boxR, q0b, newObj, q05, q00, q06, q09, q0a, St.freeze, q02, q07, q04, BEq.rfl, reduceIte, reduceCtorEq, Nat.reduceLT, Nat.reduceAdd, Nat.reduceSub, Nat.reduceMul, Nat.reduceBEq, Nat.reduceLeDiff, Int.reduceToNat, Int.reduceLE, hQ, q3z]
  refine q0m _ (Weak.freeze 1 0 (Nat.zero_le _) _) ?_
  rcases tf (n.kind < 5) with hk | hk
  · simp (maxSteps := 400000) only [↓preZ, postZ, coreZ, ↓preU, postU, ↓preA, postA, D_all, F_all, unR, outL, onePV, binS, ↓binS, q03, ↓q03, q01, ↓q01, boxR, q0b, newObj, q05, q00, q06, q09, q0a, St.freeze, q02, q07, q04, BEq.rfl, reduceIte, reduceCtorEq, Nat.reduceLT, Nat.reduceAdd, Nat.reduceSub, Nat.reduceMul, Nat.reduceBEq, Nat.reduceLeDiff, Int.reduceToNat, Int.reduceLE, hQ, frzC0, hk, ↓q7h, nodeZ, nodeW, Bool.false_and]
    exact h.small
  · simp (maxSteps := 400000) only [↓preZ, postZ, coreZ, ↓preU, postU, ↓preA, postA, D_all, F_all, unR, outL, onePV, binS, ↓binS, q03, ↓q03, q01, ↓q01, boxR, q0b, newObj, q05, q00, q06, q09, q0a, St.freeze, q02, q07, q04, BEq.rfl, reduceIte, reduceCtorEq, Nat.reduceLT, Nat.reduceAdd, Nat.reduceSub, Nat.reduceMul, Nat.reduceBEq, Nat.reduceLeDiff, Int.reduceToNat, Int.reduceLE, hQ, frzC0, hk, ↓q7h, nodeZ, nodeW, Bool.false_and]
def q2w : Ctr := fun args objs K => match args with
  | [a0] => ofE encN a0 (HK.mk : HK fun n => (NdSm n) ∧ K (.bool (scalB n)) objs 0)
  | _ => False
theorem q8u : CtrOk Tryz.prog f_louperef11_plain (q2w) := by
  intro args objs K h
  unfold q2w at h
  split at h
  · rename_i a0
    obtain ⟨n, rfl, h1, hk⟩ := h
    exact ⟨_, _, _, .pure _ rfl (qgv n h1), hk⟩
  · exact h.elim
theorem qgw (a : Atm) (h : NdSm a.c) : FnSpec Tryz.prog f_atom_Right [encA a] [] (.bool (q67 a)) [] := by
  unfold q67
  refine k_atom_Right.pureG (T := tabL Tryz.prog [(f_atom_isPlain, q2v)]) 0 hD (q0e (q0c q8t q0d)) hmix (by decide) fun Q hQ => ?_
  try simp only [F_all]
  simp (maxSteps := 400000) only [↓preZ, postZ, coreZ, ↓preU, postU, ↓preA, postA, D_all, F_all, unR, outL, onePV, binS, ↓binS, q03, ↓q03, q01, ↓q01, boxR, q0b, newObj, q05, q00, q06, q09, q0a, St.freeze, q02, q07, q04, BEq.rfl, reduceIte, reduceCtorEq, Nat.reduceLT, Nat.reduceAdd, Nat.reduceSub, Nat.reduceMul, Nat.reduceBEq, Nat.reduceLeDiff, Int.reduceToNat, Int.reduceLE, hQ, q8n]
  refine q0m _ (Weak.freeze 1 0 (Nat.zero_le _) _) ?_
  rcases tf (0 ≤ a.n) with h1 | h1
  rotate_left 1
  · simp (maxSteps := 400000) only [↓preZ, postZ, coreZ, ↓preU, postU, ↓preA, postA, D_all, F_all, unR, outL, onePV, binS, ↓binS, q03, ↓q03, q01, ↓q01, boxR, q0b, newObj, q05, q00, q06, q09, q0a, St.freeze, q02, q07, q04, BEq.rfl, reduceIte, reduceCtorEq, Nat.reduceLT, Nat.reduceAdd, Nat.reduceSub, Nat.reduceMul, Nat.reduceBEq, Nat.reduceLeDiff, Int.reduceToNat, Int.reduceLE, hQ, frzA0, h1, Bool.false_and]
  rcases tf (a.n ≤ 5) with h2 | h2
  rotate_left 1
  · simp (maxSteps := 400000) only [↓preZ, postZ, coreZ, ↓preU, postU, ↓preA, postA, D_all, F_all, unR, outL, onePV, binS, ↓binS, q03, ↓q03, q01, ↓q01, boxR, q0b, newObj, q05, q00, q06, q09, q0a, St.freeze, q02, q07, q04, BEq.rfl, reduceIte, reduceCtorEq, Nat.reduceLT, Nat.reduceAdd, Nat.reduceSub, Nat.reduceMul, Nat.reduceBEq, Nat.reduceLeDiff, Int.reduceToNat, Int.reduceLE, hQ, frzA0, h1, h2, Bool.false_and, Bool.and_false]
  simp (maxSteps := 400000) only [↓preZ, postZ, coreZ, ↓preU, postU, ↓preA, postA, D_all, F_all, unR, outL, onePV, binS, ↓binS, q03, ↓q03, q01, ↓q01, boxR, q0b, newObj, q05, q00, q06, q09, q0a, St.freeze, q02, q07, q04, BEq.rfl, reduceIte, reduceCtorEq, Nat.reduceLT, Nat.reduceAdd, Nat.reduceSub, Nat.reduceMul, Nat.reduceBEq, Nat.reduceLeDiff, Int.reduceToNat, Int.reduceLE, hQ, frzA0, h1, h2, ↓q2v]
  exact h
def q7r : Ctr := fun args objs K => match args with
  | [a0] => ofE encA a0 (HK.mk : HK fun a => (NdSm a.c) ∧ K (.bool (q67 a)) objs 0)
  | _ => False
theorem qfb : CtrOk Tryz.prog f_atom_Right (q7r) := by
  intro args objs K h
  unfold q7r at h
  split at h
  · rename_i a0
    obtain ⟨a, rfl, h1, hk⟩ := h
    exact ⟨_, _, _, .pure _ rfl (qgw a h1), hk⟩
  · exact h.elim
theorem qgx (a : Atm) (h : NdSm a.c) : FnSpec Tryz.prog f_louperef11_Right [encA a] [] (.bool (q67 a)) [] := by
  unfold q67
  refine k_louperef11_Right.pureG (T := tabL Tryz.prog [(f_louperef11_plain, q2w)]) 0 hD (q0e (q0c q8u q0d)) hmix (by decide) fun Q hQ => ?_
  try simp only [F_all]
  simp (maxSteps := 400000) only [↓preZ, postZ, coreZ, ↓preU, postU, ↓preA, postA, D_all, F_all, unR, outL, onePV, binS, ↓binS, q03, ↓q03, q01, ↓q01, boxR, q0b, newObj, q05, q00, q06, q09, q0a, St.freeze, q02, q07, q04, BEq.rfl, reduceIte, reduceCtorEq, Nat.reduceLT, Nat.reduceAdd, Nat.reduceSub, Nat.reduceMul, Nat.reduceBEq, Nat.reduceLeDiff, Int.reduceToNat, Int.reduceLE, hQ, q40]
  refine q0m _ (Weak.freeze 1 0 (Nat.zero_le _) _) ?_
  rcases tf (0 ≤ a.n) with h1 | h1
  rotate_left 1
  · simp (maxSteps := 400000) only [↓preZ, postZ, coreZ, ↓preU, postU, ↓preA, postA, D_all, F_all, unR, outL, onePV, binS, ↓binS, q03, ↓q03, q01, ↓q01, boxR, q0b, newObj, q05, q00, q06, q09, q0a, St.freeze, q02, q07, q04, BEq.rfl, reduceIte, reduceCtorEq, Nat.reduceLT, Nat.reduceAdd, Nat.reduceSub, Nat.reduceMul, Nat.reduceBEq, Nat.reduceLeDiff, Int.reduceToNat, Int.reduceLE, hQ, frzA0, h1, Bool.false_and]
  rcases tf (a.n ≤ 5) with h2 | h2
  rotate_left 1
  · simp (maxSteps := 400000) only [↓preZ, postZ, coreZ, ↓preU, postU, ↓preA, postA, D_all, F_all, unR, outL, onePV, binS, ↓binS, q03, ↓q03, q01, ↓q01, boxR, q0b, newObj, q05, q00, q06, q09, q0a, St.freeze, q02, q07, q04, BEq.rfl, reduceIte, reduceCtorEq, Nat.reduceLT, Nat.reduceAdd, Nat.reduceSub, Nat.reduceMul, Nat.reduceBEq, Nat.reduceLeDiff, Int.reduceToNat, Int.reduceLE, hQ, frzA0, h1, h2, Bool.false_and, Bool.and_false]
  simp (maxSteps := 400000) only [↓preZ, postZ, coreZ, ↓preU, postU, ↓preA, postA, D_all, F_all, unR, outL, onePV, binS, ↓binS, q03, ↓q03, q01, ↓q01, boxR, q0b, newObj, q05, q00, q06, q09, q0a, St.freeze, q02, q07, q04, BEq.rfl, reduceIte, reduceCtorEq, Nat.reduceLT, Nat.reduceAdd, Nat.reduceSub, Nat.reduceMul, Nat.reduceBEq, Nat.reduceLeDiff, Int.reduceToNat, Int.reduceLE, hQ, frzA0, h1, h2, ↓q2w]
  exact h
def q5m : Ctr := fun args objs K => match args with
  | [a0] => ofE encA a0 (HK.mk : HK fun a => (NdSm a.c) ∧ K (.bool (q67 a)) objs 0)
  | _ => False
theorem qfc : CtrOk Tryz.prog f_louperef11_Right (q5m) := by
  intro args objs K h
  unfold q5m at h
  split at h
  · rename_i a0
    obtain ⟨a, rfl, h1, hk⟩ := h
    exact ⟨_, _, _, .pure _ rfl (qgx a h1), hk⟩
  · exact h.elim
theorem qc7 (how c : Int) : (how = 0 ∧ saysI how c = decide (c = 0)) ∨ (how = 1 ∧ saysI how c = !decide (c = 0)) ∨ (how = 2 ∧ saysI how c = decide (c < 0)) ∨ (how = 3 ∧ saysI how c = decide (c ≤ 0)) ∨ (how = 4 ∧ saysI how c = decide (0 < c)) ∨
    ((how = 0) = False ∧ (how = 1) = False ∧ (how = 2) = False ∧ (how = 3) = False ∧ (how = 4) = False ∧ saysI how c = decide (0 ≤ c)) := by
  by_cases h0 : how = 0
  · exact .inl ⟨h0, by simp [saysI, h0]⟩
  by_cases h1 : how = 1
  · exact .inr (.inl ⟨h1, by simp [saysI, h1]⟩)
  by_cases h2 : how = 2
  · exact .inr (.inr (.inl ⟨h2, by simp [saysI, h2]⟩))
  by_cases h3 : how = 3
  · exact .inr (.inr (.inr (.inl ⟨h3, by simp [saysI, h3]⟩)))
  by_cases h4 : how = 4
  · exact .inr (.inr (.inr (.inr (.inl ⟨h4, by simp [saysI, h4]⟩))))
  · exact .inr (.inr (.inr (.inr (.inr ⟨eq_false h0, eq_false h1, eq_false h2, eq_false h3, eq_false h4, by simp [saysI, h0, h1, h2, h3, h4]⟩))))
theorem qmg (how c : Int) : FnSpec Tryz.prog f_louperef10_Says [.int .i64 how, .int .i64 c] [] (.bool (saysI how c)) [] := by
  refine k_louperef10_Says.pureG (T := tabL Tryz.prog []) 0 hD (q0e q0d) hmix (by decide) fun Q hQ => ?_
  try simp only [F_all]
  rcases qc7 how c with ⟨h, hr⟩ | ⟨h, hr⟩ | ⟨h, hr⟩ | ⟨h, hr⟩ | ⟨h, hr⟩ | ⟨k0, k1, k2, k3, k4, hr⟩
  · rw [h] at hr
    simp (maxSteps := 400000) only [↓preZ, postZ, coreZ, ↓preU, postU, ↓preA, postA, D_all, F_all, unR, outL, onePV, binS, ↓binS, q03, ↓q03, q01, ↓q01, boxR, q0b, newObj, q05, q00, q06, q09, q0a, St.freeze, q02, q07, q04, BEq.rfl, reduceIte, reduceCtorEq, Nat.reduceLT, Nat.reduceAdd, Nat.reduceSub, Nat.reduceMul, Nat.reduceBEq, Nat.reduceLeDiff, Int.reduceToNat, Int.reduceLE, hQ, q0x, hr, h]
  · rw [h] at hr
    simp (maxSteps := 400000) only [↓preZ, postZ, coreZ, ↓preU, postU, ↓preA, postA, D_all, F_all, unR, outL, onePV, binS, ↓binS, q03, ↓q03, q01, ↓q01, boxR, q0b, newObj, q05, q00, q06, q09, q0a, St.freeze, q02, q07, q04, BEq.rfl, reduceIte, reduceCtorEq, Nat.reduceLT, Nat.reduceAdd, Nat.reduceSub, Nat.reduceMul, Nat.reduceBEq, Nat.reduceLeDiff, Int.reduceToNat, Int.reduceLE, hQ, q0x, hr, h, Int.reduceEq]
  · rw [h] at hr
    simp (maxSteps := 400000) only [↓preZ, postZ, coreZ, ↓preU, postU, ↓preA, postA, D_all, F_all, unR, outL, onePV, binS, ↓binS, q03, ↓q03, q01, ↓q01, boxR, q0b, newObj, q05, q00, q06, q09, q0a, St.freeze, q02, q07, q04, BEq.rfl, reduceIte, reduceCtorEq, Nat.reduceLT, Nat.reduceAdd, Nat.reduceSub, Nat.reduceMul, Nat.reduceBEq, Nat.reduceLeDiff, Int.reduceToNat, Int.reduceLE, hQ, q0x, hr, h, Int.reduceEq]
  · rw [h] at hr
    simp (maxSteps := 400000) only [↓preZ, postZ, coreZ, ↓preU, postU, ↓preA, postA, D_all, F_all, unR, outL, onePV, binS, ↓binS, q03, ↓q03, q01, ↓q01, boxR, q0b, newObj, q05, q00, q06, q09, q0a, St.freeze, q02, q07, q04, BEq.rfl, reduceIte, reduceCtorEq, Nat.reduceLT, Nat.reduceAdd, Nat.reduceSub, Nat.reduceMul, Nat.reduceBEq, Nat.reduceLeDiff, Int.reduceToNat, Int.reduceLE, hQ, q0x, hr, h, Int.reduceEq]
  · rw [h] at hr
    simp (maxSteps := 400000) only [↓preZ, postZ, coreZ, ↓preU, postU, ↓preA, postA, D_all, F_all, unR, outL, onePV, binS, ↓binS, q03, ↓q03, q01, ↓q01, boxR, q0b, newObj, q05, q00, q06, q09, q0a, St.freeze, q02, q07, q04, BEq.rfl, reduceIte, reduceCtorEq, Nat.reduceLT, Nat.reduceAdd, Nat.reduceSub, Nat.reduceMul, Nat.reduceBEq, Nat.reduceLeDiff, Int.reduceToNat, Int.reduceLE, hQ, q0x, hr, h, Int.reduceEq]
  · simp (maxSteps := 400000) only [↓preZ, postZ, coreZ, ↓preU, postU, ↓preA, postA, D_all, F_all, unR, outL, onePV, binS, ↓binS, q03, ↓q03, q01, ↓q01, boxR, q0b, newObj, q05, q00, q06, q09, q0a, St.freeze, q02, q07, q04, BEq.rfl, reduceIte, reduceCtorEq, Nat.reduceLT, Nat.reduceAdd, Nat.reduceSub, Nat.reduceMul, Nat.reduceBEq, Nat.reduceLeDiff, Int.reduceToNat, Int.reduceLE, hQ, q0x, k0, k1, k2, k3, k4, hr]
def qdj : Ctr := fun args objs K => match args with
  | [.int .i64 how, .int .i64 c] => K (.bool (saysI how c)) objs 0
  | _ => False
theorem qjg : CtrOk Tryz.prog f_louperef10_Says (qdj) := by
  intro args objs K h
  unfold qdj at h
  split at h
  · rename_i how c
    have hk := h
    exact ⟨_, _, _, .pure _ rfl (qmg how c), hk⟩
  · exact h.elim
structure CmpOk (n : Nd) : Prop where
  sc : scalB n = true
  len : n.s.length ≤ 1000000
theorem CmpOk.few {n : Nd} (h : CmpOk n) : FewOk [n] 1 := by
  have hr : q12 [n] = true := by
    have := h.sc
    simp only [scalB, Bool.and_eq_true] at this
    exact this.2
  have hrt := q6w hr
  have hpl := qez hr
  refine ⟨by simp, hrt, ⟨hrt.one, by simp, fun m hm => ?_⟩, ⟨hrt.one, by simp, fun m hm hk3 => qm9 (q4m (hpl m hm) hk3)⟩⟩
  have hp := hpl m hm
  rw [List.mem_singleton] at hm
  subst hm
  exact qma hp h.len
theorem qgy (a : Atm) (n : Nd) (ha : CmpOk a.c) (hn : CmpOk n) : FnSpec Tryz.prog f_atom_Holds [encA a, encN n] [] (.bool (q25 a n)) [] := by
  obtain ⟨f, hf⟩ : ∃ f : Nat, f = 1 := ⟨1, rfl⟩
  have hh : q25 a n = saysI a.n (cmpV f [n] [a.c]) := by rw [hf]; rfl
  rw [hh]
  have hl : [n].length ≤ f := by rw [hf]; exact Nat.le_refl _
  have o1 := hn.few.ok
  have o2 := ha.few.ok
  refine k_atom_Holds.pureG (T := tabL Tryz.prog [(f_order_Cmp, (q7m f))]) 0 hD (q0e (q0c (qew f) q0d)) hmix (by decide) fun Q hQ => ?_
  try simp only [F_all]
  generalize hc : cmpV f [n] [a.c] = c
  simp (maxSteps := 400000) only [↓preZ, postZ, coreZ, ↓preU, postU, ↓preA, postA, D_all, F_all, unR, outL, onePV, binS, ↓binS, q03, ↓q03, q01, ↓q01, boxR, q0b, newObj, q05, q00, q06, q09, q0a, St.freeze, q02, q07, q04, BEq.rfl, reduceIte, reduceCtorEq, Nat.reduceLT, Nat.reduceAdd, Nat.reduceSub, Nat.reduceMul, Nat.reduceBEq, Nat.reduceLeDiff, Int.reduceToNat, Int.reduceLE, hQ, q8o]
  refine q0m _ (Weak.freeze 1 0 (Nat.zero_le _) _) ?_
  simp (maxSteps := 400000) only [↓preZ, postZ, coreZ, ↓preU, postU, ↓preA, postA, D_all, F_all, unR, outL, onePV, binS, ↓binS, q03, ↓q03, q01, ↓q01, boxR, q0b, newObj, q05, q00, q06, q09, q0a, St.freeze, q02, q07, q04, BEq.rfl, reduceIte, reduceCtorEq, Nat.reduceLT, Nat.reduceAdd, Nat.reduceSub, Nat.reduceMul, Nat.reduceBEq, Nat.reduceLeDiff, Int.reduceToNat, Int.reduceLE, hQ, qog, qoh, ↓q7m, hc, nodeZ, nodeW]
  refine ⟨hl, o1, o2, ?_⟩
  rcases qc7 a.n c with ⟨h, hr⟩ | ⟨h, hr⟩ | ⟨h, hr⟩ | ⟨h, hr⟩ | ⟨h, hr⟩ | ⟨k0, k1, k2, k3, k4, hr⟩
  · rw [h] at hr
    simp (maxSteps := 400000) only [↓preZ, postZ, coreZ, ↓preU, postU, ↓preA, postA, D_all, F_all, unR, outL, onePV, binS, ↓binS, q03, ↓q03, q01, ↓q01, boxR, q0b, newObj, q05, q00, q06, q09, q0a, St.freeze, q02, q07, q04, BEq.rfl, reduceIte, reduceCtorEq, Nat.reduceLT, Nat.reduceAdd, Nat.reduceSub, Nat.reduceMul, Nat.reduceBEq, Nat.reduceLeDiff, Int.reduceToNat, Int.reduceLE, hQ, hr, h]
  · rw [h] at hr
    simp (maxSteps := 400000) only [↓preZ, postZ, coreZ, ↓preU, postU, ↓preA, postA, D_all, F_all, unR, outL, onePV, binS, ↓binS, q03, ↓q03, q01, ↓q01, boxR, q0b, newObj, q05, q00, q06, q09, q0a, St.freeze, q02, q07, q04, BEq.rfl, reduceIte, reduceCtorEq, Nat.reduceLT, Nat.reduceAdd, Nat.reduceSub, Nat.reduceMul, Nat.reduceBEq, Nat.reduceLeDiff, Int.reduceToNat, Int.reduceLE, hQ, hr, h, Int.reduceEq]
  · rw [h] at hr
    simp (maxSteps := 400000) only [↓preZ, postZ, coreZ, ↓preU, postU, ↓preA, postA, D_all, F_all, unR, outL, onePV, binS, ↓binS, q03, ↓q03, q01, ↓q01, boxR, q0b, newObj, q05, q00, q06, q09, q0a, St.freeze, q02, q07, q04, BEq.rfl, reduceIte, reduceCtorEq, Nat.reduceLT, Nat.reduceAdd, Nat.reduceSub, Nat.reduceMul, Nat.reduceBEq, Nat.reduceLeDiff, Int.reduceToNat, Int.reduceLE, hQ, hr, h, Int.reduceEq]
  · rw [h] at hr
    simp (maxSteps := 400000) only [↓preZ, postZ, coreZ, ↓preU, postU, ↓preA, postA, D_all, F_all, unR, outL, onePV, binS, ↓binS, q03, ↓q03, q01, ↓q01, boxR, q0b, newObj, q05, q00, q06, q09, q0a, St.freeze, q02, q07, q04, BEq.rfl, reduceIte, reduceCtorEq, Nat.reduceLT, Nat.reduceAdd, Nat.reduceSub, Nat.reduceMul, Nat.reduceBEq, Nat.reduceLeDiff, Int.reduceToNat, Int.reduceLE, hQ, hr, h, Int.reduceEq]
  · rw [h] at hr
    simp (maxSteps := 400000) only [↓preZ, postZ, coreZ, ↓preU, postU, ↓preA, postA, D_all, F_all, unR, outL, onePV, binS, ↓binS, q03, ↓q03, q01, ↓q01, boxR, q0b, newObj, q05, q00, q06, q09, q0a, St.freeze, q02, q07, q04, BEq.rfl, reduceIte, reduceCtorEq, Nat.reduceLT, Nat.reduceAdd, Nat.reduceSub, Nat.reduceMul, Nat.reduceBEq, Nat.reduceLeDiff, Int.reduceToNat, Int.reduceLE, hQ, hr, h, Int.reduceEq]
  · simp (maxSteps := 400000) only [↓preZ, postZ, coreZ, ↓preU, postU, ↓preA, postA, D_all, F_all, unR, outL, onePV, binS, ↓binS, q03, ↓q03, q01, ↓q01, boxR, q0b, newObj, q05, q00, q06, q09, q0a, St.freeze, q02, q07, q04, BEq.rfl, reduceIte, reduceCtorEq, Nat.reduceLT, Nat.reduceAdd, Nat.reduceSub, Nat.reduceMul, Nat.reduceBEq, Nat.reduceLeDiff, Int.reduceToNat, Int.reduceLE, hQ, k0, k1, k2, k3, k4, hr]
def q1v : Ctr := fun args objs K => match args with
  | [a0, a1] => ofE encA a0 (HK.mk : HK fun a => ofE encN a1 (HK.mk : HK fun n => (CmpOk a.c) ∧ (CmpOk n) ∧ K (.bool (q25 a n)) objs 0))
  | _ => False
theorem q5n : CtrOk Tryz.prog f_atom_Holds (q1v) := by
  intro args objs K h
  unfold q1v at h
  split at h
  · rename_i a0 a1
    obtain ⟨a, rfl, n, rfl, h1, h2, hk⟩ := h
    exact ⟨_, _, _, .pure _ rfl (qgy a n h1 h2), hk⟩
  · exact h.elim
theorem qgz (a : Atm) (n : Nd) (ha : CmpOk a.c) (hn : CmpOk n) : FnSpec Tryz.prog f_louperef11_Holds [encA a, encN n] [] (.bool (q25 a n)) [] := by
  obtain ⟨f, hf⟩ : ∃ f : Nat, f = 1 := ⟨1, rfl⟩
  have hh : q25 a n = saysI a.n (cmpW refN f [n] [a.c]) := by rw [hf, qhy 1 _ _ hn.few.rt ha.few.rt]; rfl
  rw [hh]
  have hl : [n].length ≤ f := by rw [hf]; exact Nat.le_refl _
  have o1 := hn.few.ok2
  have o2 := ha.few.ok2
  refine k_louperef11_Holds.pureG (T := tabL Tryz.prog [(f_louperef05_Cmp, (qd7 f)), (f_louperef10_Says, qdj)]) 0 hD (q0e (q0c (qj6 f) (q0c qjg q0d))) hmix (by decide) fun Q hQ => ?_
  try simp only [F_all]
  simp (maxSteps := 400000) only [↓preZ, postZ, coreZ, ↓preU, postU, ↓preA, postA, D_all, F_all, unR, outL, onePV, binS, ↓binS, q03, ↓q03, q01, ↓q01, boxR, q0b, newObj, q05, q00, q06, q09, q0a, St.freeze, q02, q07, q04, BEq.rfl, reduceIte, reduceCtorEq, Nat.reduceLT, Nat.reduceAdd, Nat.reduceSub, Nat.reduceMul, Nat.reduceBEq, Nat.reduceLeDiff, Int.reduceToNat, Int.reduceLE, hQ, q41]
  refine q0m _ (Weak.freeze 1 0 (Nat.zero_le _) _) ?_
  simp (maxSteps := 400000) only [↓preZ, postZ, coreZ, ↓preU, postU, ↓preA, postA, D_all, F_all, unR, outL, onePV, binS, ↓binS, q03, ↓q03, q01, ↓q01, boxR, q0b, newObj, q05, q00, q06, q09, q0a, St.freeze, q02, q07, q04, BEq.rfl, reduceIte, reduceCtorEq, Nat.reduceLT, Nat.reduceAdd, Nat.reduceSub, Nat.reduceMul, Nat.reduceBEq, Nat.reduceLeDiff, Int.reduceToNat, Int.reduceLE, hQ, qog, qoh, ↓qd7, ↓qdj, nodeZ, nodeW]
  exact ⟨hl, o1, o2⟩
def q5o : Ctr := fun args objs K => match args with
  | [a0, a1] => ofE encA a0 (HK.mk : HK fun a => ofE encN a1 (HK.mk : HK fun n => (CmpOk a.c) ∧ (CmpOk n) ∧ K (.bool (q25 a n)) objs 0))
  | _ => False
theorem qfd : CtrOk Tryz.prog f_louperef11_Holds (q5o) := by
  intro args objs K h
  unfold q5o at h
  split at h
  · rename_i a0 a1
    obtain ⟨a, rfl, n, rfl, h1, h2, hk⟩ := h
    exact ⟨_, _, _, .pure _ rfl (qgz a n h1 h2), hk⟩
  · exact h.elim
end Lp

/-! LpD4 -/

namespace Lp
open Go Go.Proofs
set_option maxHeartbeats 4000000
set_option maxRecDepth 20000
set_option linter.unusedSimpArgs false
end Lp

/-! LpD5 -/

namespace Lp
open Go Go.Proofs
set_option maxHeartbeats 4000000
set_option maxRecDepth 20000
set_option linter.unusedSimpArgs false
end Lp

/-! LpV10 -/

namespace Lp
open Go
structure Sel (names : List (List UInt8)) (l : List Vl) (q : Prs) (done : List Bool) (m : Nat) : Prop where
  par : names.length = l.length
  len : done.length = names.length
  cnt : q.length + m = names.length
  left : done.count false = m
  mem : ∀ x : List UInt8 × Vl, x ∈ q ↔ ∃ i : Nat, done[i]? = some true ∧ names[i]? = some x.1 ∧ l[i]? = some x.2
  rise : Rise (q.map (·.1))
  utf : ∀ x ∈ q, utf x.1 = true
  low : ∀ (i : Nat) nm, done[i]? = some false → names[i]? = some nm → ∀ x ∈ q, Op.bytesLess nm x.1 = false
  one : ∀ (i j : Nat) nm, done[i]? = some true → done[j]? = some true → names[i]? = some nm → names[j]? = some nm → i = j
theorem Sel.above {names : List (List UInt8)} {l : List Vl} {q : Prs} {done : List Bool} {m : Nat} (h : Sel names l q done m) {b : Nat} {nm : List UInt8} (hb : done[b]? = some false) (hn : names[b]? = some nm)
    (hl : ∀ x, q.getLast? = some x → x.1 ≠ nm) : ∀ x ∈ q, Op.bytesLess x.1 nm = true := by
  have hlow := h.low b nm hb hn
  rcases List.eq_nil_or_concat q with rfl | ⟨q', z, rfl⟩
  · intro x hx; cases hx
  rw [List.concat_eq_append] at *
  have hz : z ∈ q' ++ [z] := by simp
  have hzl : Op.bytesLess z.1 nm = true := by
    rcases qdu z.1 nm with g | g | g
    · exact g
    · exact absurd g (hl z (by simp))
    · rw [hlow z hz] at g; cases g
  intro x hx
  have hr := h.rise
  rw [List.map_append] at hr
  rcases List.mem_append.1 hx with hx | hx
  · exact q4p _ _ _ ((List.pairwise_append.1 hr).2.2 x.1 (List.mem_map.2 ⟨x, hx, rfl⟩) z.1 (by simp)) hzl
  · simp only [List.mem_singleton] at hx
    subst hx; exact hzl
theorem Sel.step {names : List (List UInt8)} {l : List Vl} {q : Prs} {done : List Bool} {m : Nat} (h : Sel names l q done (m + 1)) {b : Nat} {nm : List UInt8} {v : Vl} (hb : done[b]? = some false) (hn : names[b]? = some nm) (hv : l[b]? = some v)
    (hmin : ∀ (i : Nat) nm', done[i]? = some false → names[i]? = some nm' → Op.bytesLess nm' nm = false) (hu : Lp.utf nm = true) (hl : ∀ x, q.getLast? = some x → x.1 ≠ nm) :
    Sel names l (q ++ [(nm, v)]) (done.set b true) m := by
  have hbl := (List.getElem?_eq_some_iff.1 hb).1
  have hab := h.above hb hn hl
  have hset : ∀ i c, (done.set b true)[i]? = some c → (i = b ∧ c = true) ∨ (i ≠ b ∧ done[i]? = some c) := fun i c hc => by
    rw [List.getElem?_set] at hc
    split at hc
    · rename_i e
      subst e
      exact .inl ⟨rfl, by simpa [hbl] using hc.symm⟩
    · rename_i e
      exact .inr ⟨fun e' => e e'.symm, hc⟩
  have hset' : ∀ i c, i ≠ b → done[i]? = some c → (done.set b true)[i]? = some c := fun i c hi hc => by
    rw [List.getElem?_set_ne (fun e => hi e.symm)]; exact hc
  have hsb : (done.set b true)[b]? = some true := by rw [List.getElem?_set_self hbl]
  refine ⟨h.par, by simp [h.len], by have := h.cnt; simp; omega, ?_, fun x => ?_, ?_, ?_, ?_, ?_⟩
  · have h1 := h.left
    have e : done = done.take b ++ false :: done.drop (b + 1) := by
      have := List.getElem?_eq_some_iff.1 hb
      obtain ⟨_, e⟩ := this
      conv => lhs; rw [← List.take_append_drop b done, List.drop_eq_getElem_cons hbl, e]
    have e2 : done.set b true = done.take b ++ true :: done.drop (b + 1) := by
      rw [List.set_eq_take_append_cons_drop, if_pos hbl]
    rw [e2, List.count_append, List.count_cons]
    rw [e, List.count_append, List.count_cons] at h1
    simp at h1 ⊢
    omega
  · rw [List.mem_append, h.mem]
    constructor
    · rintro (⟨i, h1, h2, h3⟩ | hx)
      · have : i ≠ b := fun e => by subst e; rw [hb] at h1; cases h1
        exact ⟨i, hset' i _ this h1, h2, h3⟩
      · simp only [List.mem_singleton] at hx
        subst hx
        exact ⟨b, hsb, hn, hv⟩
    · rintro ⟨i, h1, h2, h3⟩
      rcases hset i _ h1 with ⟨rfl, _⟩ | ⟨hi, hd⟩
      · right
        rw [hn] at h2; rw [hv] at h3
        simp only [Option.some.injEq] at h2 h3
        simp [h2, h3]
      · exact .inl ⟨i, hd, h2, h3⟩
  · rw [List.map_append]
    refine List.pairwise_append.2 ⟨h.rise, by simp, fun x hx y hy => ?_⟩
    simp only [List.map_cons, List.map_nil, List.mem_singleton] at hy
    subst hy
    obtain ⟨z, hz, rfl⟩ := List.mem_map.1 hx
    exact hab z hz
  · intro x hx
    rcases List.mem_append.1 hx with hx | hx
    · exact h.utf x hx
    · simp only [List.mem_singleton] at hx
      subst hx; exact hu
  · intro i nm' h1 h2 x hx
    rcases hset i _ h1 with ⟨_, hc⟩ | ⟨hi, hd⟩
    · cases hc
    · rcases List.mem_append.1 hx with hx | hx
      · exact h.low i nm' hd h2 x hx
      · simp only [List.mem_singleton] at hx
        subst hx
        exact hmin i nm' hd h2
  · intro i j nm' h1 h2 h3 h4
    have key : ∀ k, k ≠ b → done[k]? = some true → names[k]? = some nm' → nm' ≠ nm := fun k hk hd hnk e => by
      subst e
      have hkl : k < l.length := by rw [← h.par]; exact (List.getElem?_eq_some_iff.1 hnk).1
      have := hab (nm', l[k]) ((h.mem _).2 ⟨k, hd, hnk, List.getElem?_eq_getElem hkl⟩)
      rw [q1d] at this; cases this
    rcases hset i _ h1 with ⟨rfl, _⟩ | ⟨hi, hd⟩
    · rcases hset j _ h2 with ⟨rfl, _⟩ | ⟨hj, hd'⟩
      · rfl
      · rw [hn] at h3
        simp only [Option.some.injEq] at h3
        exact absurd h3.symm (key j hj hd' h4)
    · rcases hset j _ h2 with ⟨rfl, _⟩ | ⟨hj, hd'⟩
      · rw [hn] at h4
        simp only [Option.some.injEq] at h4
        exact absurd h4.symm (key i hi hd h3)
      · exact h.one i j nm' hd hd' h3 h4
theorem Sel.all {names : List (List UInt8)} {l : List Vl} {q : Prs} {done : List Bool} (h : Sel names l q done 0) {i : Nat} (hi : i < names.length) : done[i]? = some true := by
  have h1 := List.getElem?_eq_getElem (by rw [h.len]; exact hi : i < done.length)
  rw [h1]
  cases hd : done[i]'(by rw [h.len]; exact hi) with
  | true => rfl
  | false =>
    have := h.left
    rw [List.count_eq_zero] at this
    exact absurd (by rw [← hd]; exact List.getElem_mem _) this
theorem Sel.end {names : List (List UInt8)} {l : List Vl} {q : Prs} {done : List Bool} (h : Sel names l q done 0) : q9n names l.length = true ∧ q = srtP (names.zip l) := by
  have hq : ∀ (i : Nat) (hi : i < names.length), (names[i], l[i]'(by rw [← h.par]; exact hi)) ∈ q := fun i hi =>
    (h.mem _).2 ⟨i, h.all hi, List.getElem?_eq_getElem hi, List.getElem?_eq_getElem _⟩
  have hok : q9n names l.length = true := by
    rw [namesOk_iff]
    refine ⟨h.par, ?_, fun x hx => ?_⟩
    · refine List.pairwise_iff_getElem.2 fun i j hi hj hij e => ?_
      have := h.one i j names[i] (h.all hi) (h.all hj) (List.getElem?_eq_getElem hi) (by rw [e]; exact List.getElem?_eq_getElem hj)
      omega
    · obtain ⟨i, hi, rfl⟩ := List.mem_iff_getElem.1 hx
      exact h.utf _ (hq i hi)
  refine ⟨hok, qfn hok h.rise fun x => ?_⟩
  constructor
  · intro hx
    obtain ⟨i, _, h2, h3⟩ := (h.mem x).1 hx
    refine List.mem_iff_getElem?.2 ⟨i, ?_⟩
    rw [List.getElem?_zip_eq_some]
    exact ⟨h2, h3⟩
  · intro hx
    obtain ⟨i, hi⟩ := List.mem_iff_getElem?.1 hx
    rw [List.getElem?_zip_eq_some] at hi
    exact (h.mem x).2 ⟨i, h.all (List.getElem?_eq_some_iff.1 hi.1).1, hi.1, hi.2⟩
theorem Sel.some {names : List (List UInt8)} {l : List Vl} {q : Prs} {done : List Bool} {m : Nat} (h : Sel names l q done (m + 1)) : ∃ i : Nat, done[i]? = Option.some false := by
  have : 0 < done.count false := by rw [h.left]; omega
  exact List.mem_iff_getElem?.1 (List.count_pos_iff.1 this)
end Lp

/-! LpX1 -/

namespace Lp
open Go Go.Proofs
set_option maxHeartbeats 4000000
set_option maxRecDepth 20000
set_option linter.unusedSimpArgs false
section
variable {α : Type} {enc : α → PV} {sz : Nat}
end
end Lp

/-! LpD6 -/

namespace Lp
open Go Go.Proofs
set_option maxHeartbeats 4000000
set_option maxRecDepth 20000
set_option linter.unusedSimpArgs false
theorem qjh {α : Type} {f : PV → PV} (enc : α → PV) (h : ∀ x, (enc x).mapCells f = enc x) (l : List α) : (l.map enc).map (PV.mapCells f) = l.map enc := by
  rw [List.map_map]
  exact List.map_congr_left fun x _ => h x
end Lp

/-! LpD9 -/

namespace Lp
open Go Go.Proofs
set_option maxHeartbeats 4000000
set_option maxRecDepth 20000
set_option linter.unusedSimpArgs false
theorem FnOk.pureCC {P : Program} {D : TypeId → TInfo} {T : Know} {f : FuncId} {n t u : Nat} {ty uy : TypeId} {C : LC} {args : List PV} {r : PV} (h : FnOk P f n [.cell t ty, .cell u uy] C) (d : Nat) (hD : ∀ t, TOk P t (D t)) (hT : KOk P none Etop T) (hm : P.follows .mixedOrders = true) (ht : t < n) (hu : u < n)
    (hw : ∀ Q : Exit → St → Prop, (∀ l ob, Q .ret ⟨tmA n l, ob⟩ = loadR (D ty) (lkA l t) ob fun p _ _ => loadR (D uy) (lkA l u) ob fun q _ _ => r = .tup [frzT d 0 ob p, frzT d 0 ob q]) → wpc P D T C Q (q13 args n)) : FnSpec P f args [] r [] := by
  refine h.pure d hD hT hm (by simp) (hw _ fun l ob => ?_)
  simp only [retR, outL, taR2.2.1 n l t ht, taR2.2.1 n l u hu, List.map_cons, List.map_nil, onePV]
theorem NoRefs.lt {O : List Obj} (h : NoRefs O) : q2s O := fun o ho x hx c hc => by
  have := h o ho x hx c hc
  cases c <;> first | rfl | (simp [PV.ref] at this)
end Lp

/-! LpD10 -/

namespace Lp
open Go Go.Proofs Go.RowKit Go.Sort
set_option maxHeartbeats 4000000
set_option maxRecDepth 100000
end Lp

/-! LpD11 -/

namespace Lp
open Go Go.Proofs Go.RowKit
set_option maxHeartbeats 4000000
set_option maxRecDepth 20000
set_option linter.unusedSimpArgs false
end Lp

/-! LpD12 -/

namespace Lp
open Go Go.Proofs
set_option maxHeartbeats 4000000
set_option maxRecDepth 20000
set_option linter.unusedSimpArgs false
theorem opsM (P : Program) (D : TypeId → TInfo) (T : Know) (w pt : Bool) (ev : Operand → PV) (objs : List Obj) (K : KT) :
    (∀ t x ix ok, opT P D T w pt ev objs (.lookup t x ix ok) K = q4t D t (ev x) (ev ix) ok objs K) ∧
    (∀ t x y z, opT P D T w pt ev objs (.mapUpdate t x y z) K = q1n D t (ev x) (ev y) (ev z) objs K) ∧
    (∀ t, opT P D T w pt ev objs (.makeMap t none) K = q31 D t objs K) := ⟨fun _ _ _ _ => rfl, fun _ _ _ _ => rfl, fun _ => rfl⟩
end Lp

/-! LpE2 -/

namespace Lp
open Go Go.Proofs
set_option maxHeartbeats 4000000
set_option maxRecDepth 20000
set_option linter.unusedSimpArgs false
theorem qmh (mask kind : Int) (hm : 0 ≤ mask ∧ mask ≤ 1000000) (hk : 0 ≤ kind ∧ kind ≤ 1000000) : FnSpec Tryz.prog f_louperef11_Lets [.int .i64 mask, .int .i64 kind] [] (.bool (letsB mask kind)) [] := by
  refine k_louperef11_Lets.pureG (T := tabL Tryz.prog []) 0 hD (q0e q0d) hmix (by decide) fun Q hQ => ?_
  try simp only [F_all]
  simp (maxSteps := 400000) only [↓preZ, postZ, coreZ, ↓preU, postU, ↓preA, postA, D_all, F_all, unR, outL, onePV, binS, ↓binS, q03, ↓q03, q01, ↓q01, boxR, q0b, newObj, q05, q00, q06, q09, q0a, St.freeze, q02, q07, q04, BEq.rfl, reduceIte, reduceCtorEq, Nat.reduceLT, Nat.reduceAdd, Nat.reduceSub, Nat.reduceMul, Nat.reduceBEq, Nat.reduceLeDiff, Int.reduceToNat, Int.reduceLE, hQ, q4j]
  refine q0q (fun m S => ∃ (i x : Nat), i + m = kind.toNat ∧ x = mask.toNat / 2 ^ i ∧ S = ⟨tmA 16 [(0, .int .i64 x), (1, .int .i64 kind), (5, .int .i64 i)], []⟩) kind.toNat ⟨0, mask.toNat, by omega, by simp, ?_⟩ ?_
  · simp only [normR, keepR, Nat.reduceAdd, lkR, Nat.reduceBEq, F_all, List.map_nil]
    rw [Int.toNat_of_nonneg hm.1]; rfl
  rintro m S ⟨i, x, him, hx, rfl⟩
  have hxm : x ≤ mask.toNat := by rw [hx]; exact Nat.div_le_self ..
  rcases Nat.lt_or_ge i kind.toNat with h | h
  rotate_left 1
  · have hlt : ((i : Int) < kind) = False := eq_false (by omega)
    have hi : i = kind.toNat := by omega
    have hr : letsB mask kind = decide ((x : Int).tmod 2 = 1) := by
      have e : (x : Int).tmod 2 = ((x % 2 : Nat) : Int) := rfl
      rw [e, letsB, ← hi, ← hx, Bool.eq_iff_iff, beq_iff_eq, decide_eq_true_iff]
      omega
    simp (maxSteps := 400000) only [↓preZ, postZ, coreZ, ↓preU, postU, ↓preA, postA, D_all, F_all, unR, outL, onePV, binS, ↓binS, q03, ↓q03, q01, ↓q01, boxR, q0b, newObj, q05, q00, q06, q09, q0a, St.freeze, q02, q07, q04, BEq.rfl, reduceIte, reduceCtorEq, Nat.reduceLT, Nat.reduceAdd, Nat.reduceSub, Nat.reduceMul, Nat.reduceBEq, Nat.reduceLeDiff, Int.reduceToNat, Int.reduceLE, hQ, hlt, hr]
    decide
  · have hlt : ((i : Int) < kind) = True := eq_true (by omega)
    simp (maxSteps := 400000) only [↓preZ, postZ, coreZ, ↓preU, postU, ↓preA, postA, D_all, F_all, unR, outL, onePV, binS, ↓binS, q03, ↓q03, q01, ↓q01, boxR, q0b, newObj, q05, q00, q06, q09, q0a, St.freeze, q02, q07, q04, BEq.rfl, reduceIte, reduceCtorEq, Nat.reduceLT, Nat.reduceAdd, Nat.reduceSub, Nat.reduceMul, Nat.reduceBEq, Nat.reduceLeDiff, Int.reduceToNat, Int.reduceLE, hQ, hlt]
    have e : (x : Int).tdiv 2 = ((x / 2 : Nat) : Int) := rfl
    refine ⟨by decide, ⟨by omega, by omega⟩, ⟨by omega, by omega⟩, m - 1, by omega, i + 1, x / 2, by omega, ?_, by simp [e]⟩
    rw [hx, Nat.div_div_eq_div_mul, Nat.pow_succ]
def qay : Ctr := fun args objs K => match args with
  | [.int .i64 mask, .int .i64 kind] => (0 ≤ mask ∧ mask ≤ 1000000) ∧ (0 ≤ kind ∧ kind ≤ 1000000) ∧ K (.bool (letsB mask kind)) objs 0
  | _ => False
theorem qji : CtrOk Tryz.prog f_louperef11_Lets (qay) := by
  intro args objs K h
  unfold qay at h
  split at h
  · rename_i mask kind
    obtain ⟨h1, h2, hk⟩ := h
    exact ⟨_, _, _, .pure _ rfl (qmh mask kind h1 h2), hk⟩
  · exact h.elim
theorem opsI (P : Program) (D : TypeId → TInfo) (T : Know) (w pt : Bool) (ev : Operand → PV) (objs : List Obj) (K : KT) :
    ∀ t x y z, opT P D T w pt ev objs (.insert t x y z) K = q1n D t (ev x) (ev y) (ev z) objs K := fun _ _ _ _ => rfl
theorem qjj (how : Int) (h : 0 ≤ how ∧ how ≤ 5) : FnSpec Tryz.prog f_atom_Turn [.int .i64 how] [] (.int .i64 (turnI how)) [] := by
  refine k_atom_Turn.pureG (T := tabL Tryz.prog []) 0 hD (q0e q0d) hmix (by decide) fun Q hQ => ?_
  try simp only [F_all]
  have : how = 0 ∨ how = 1 ∨ how = 2 ∨ how = 3 ∨ how = 4 ∨ how = 5 := by omega
  rcases this with rfl | rfl | rfl | rfl | rfl | rfl
  all_goals
    simp (maxSteps := 400000) only [↓preZ, postZ, coreZ, ↓preU, postU, ↓preA, postA, D_all, F_all, unR, outL, onePV, binS, ↓binS, q03, ↓q03, q01, ↓q01, boxR, q0b, newObj, q05, q00, q06, q09, q0a, St.freeze, q02, q07, q04, BEq.rfl, reduceIte, reduceCtorEq, Nat.reduceLT, Nat.reduceAdd, Nat.reduceSub, Nat.reduceMul, Nat.reduceBEq, Nat.reduceLeDiff, Int.reduceToNat, Int.reduceLE, hQ, qae, ↓opsM, ↓opsI, q31, q1n, q4t]
    repeat refine ⟨.inr ⟨_, rfl⟩, _, rfl, ?_⟩
    rfl
def q2e : Ctr := fun args objs K => match args with
  | [.int .i64 how] => (0 ≤ how ∧ how ≤ 5) ∧ K (.int .i64 (turnI how)) objs 0
  | _ => False
theorem qaz : CtrOk Tryz.prog f_atom_Turn (q2e) := by
  intro args objs K h
  unfold q2e at h
  split at h
  · rename_i how
    obtain ⟨h1, hk⟩ := h
    exact ⟨_, _, _, .pure _ rfl (qjj how h1), hk⟩
  · exact h.elim
theorem qmi (a : Atm) (n : Nd) (ha : CmpOk a.c) (hn : CmpOk n) : FnSpec Tryz.prog f_atom_Member_1 [encA a, .addr (encN n)] [] (.bool (Bool.not (q25 a n))) [] := by
  refine k_atom_Member_1.pureG (T := tabL Tryz.prog [(f_atom_Holds, q1v)]) 0 hD (q0e (q0c q5n q0d)) hmix (by decide) fun Q hQ => ?_
  try simp only [F_all]
  simp (maxSteps := 400000) only [↓preZ, postZ, coreZ, ↓preU, postU, ↓preA, postA, D_all, F_all, unR, outL, onePV, binS, ↓binS, q03, ↓q03, q01, ↓q01, boxR, q0b, newObj, q05, q00, q06, q09, q0a, St.freeze, q02, q07, q04, BEq.rfl, reduceIte, reduceCtorEq, Nat.reduceLT, Nat.reduceAdd, Nat.reduceSub, Nat.reduceMul, Nat.reduceBEq, Nat.reduceLeDiff, Int.reduceToNat, Int.reduceLE, hQ, q5j]
  refine q0m _ (Weak.freeze 1 0 (Nat.zero_le _) _) ?_
  simp (maxSteps := 400000) only [↓preZ, postZ, coreZ, ↓preU, postU, ↓preA, postA, D_all, F_all, unR, outL, onePV, binS, ↓binS, q03, ↓q03, q01, ↓q01, boxR, q0b, newObj, q05, q00, q06, q09, q0a, St.freeze, q02, q07, q04, BEq.rfl, reduceIte, reduceCtorEq, Nat.reduceLT, Nat.reduceAdd, Nat.reduceSub, Nat.reduceMul, Nat.reduceBEq, Nat.reduceLeDiff, Int.reduceToNat, Int.reduceLE, hQ, frzA0, ↓q1v]
  exact ⟨ha, hn⟩
def qb0 (n : Nd) : Ctr := fun args objs K => match args with
  | [a0, a1] => ofE encA a0 (HK.mk : HK fun a => a1 = (.addr (encN n)) ∧ (CmpOk a.c) ∧ (CmpOk n) ∧ K (.bool (Bool.not (q25 a n))) objs 0)
  | _ => False
theorem qjk (n : Nd) : CtrOk Tryz.prog f_atom_Member_1 (qb0 n) := by
  intro args objs K h
  unfold qb0 at h
  split at h
  · rename_i a0 a1
    obtain ⟨a, rfl, rfl, h1, h2, hk⟩ := h
    exact ⟨_, _, _, .pure _ rfl (qmi a n h1 h2), hk⟩
  · exact h.elim
def q2r (n : Nd) (a : Atm) : Bool := Bool.not (q25 a n)
theorem qfe (l : List Atm) (n : Nd) (hl : l.length ≤ 4611686018427387904) (ha : ∀ a ∈ l, CmpOk a.c) (hn : CmpOk n) : FnSpec Tryz.prog f_slices_IndexFunc_L_api_Atom_api_Atom_ [encAs l, .fn f_atom_Member_1 [] [.addr (encN n)]] [] (.int .i64 (idxOf (q2r n) l)) [] := by
  refine k_slices_IndexFunc_L_api_Atom_api_Atom_.pureG (T := tabL Tryz.prog [(f_atom_Member_1, (qb0 n))]) 0 hD (q0e (q0c (qjk n) q0d)) hmix (by decide) fun Q hQ => ?_
  try simp only [F_all]
  simp (maxSteps := 400000) only [↓preZ, postZ, coreZ, ↓preU, postU, ↓preA, postA, D_all, F_all, unR, outL, onePV, binS, ↓binS, q03, ↓q03, q01, ↓q01, boxR, q0b, newObj, q05, q00, q06, q09, q0a, St.freeze, q02, q07, q04, BEq.rfl, reduceIte, reduceCtorEq, Nat.reduceLT, Nat.reduceAdd, Nat.reduceSub, Nat.reduceMul, Nat.reduceBEq, Nat.reduceLeDiff, Int.reduceToNat, Int.reduceLE, hQ, q10]
  refine q0q (fun m S => ∃ i : Nat, i + m = l.length ∧ (∀ (j : Nat) y, j < i → l[j]? = some y → q2r n y = false) ∧ S = ⟨tmA 19 [(0, encAs l), (1, .fn f_atom_Member_1 [] [.addr (encN n)]), (7, .int .i64 l.length), (8, .int .i64 i)], []⟩) l.length ⟨0, by omega, fun j y h => absurd h (Nat.not_lt_zero j), ?_⟩ ?_
  · simp only [normR, keepR, Nat.reduceAdd, lkR, Nat.reduceBEq, F_all, List.map_nil]
    rfl
  rintro m S ⟨i, him, hb, rfl⟩
  rcases Nat.lt_or_ge i l.length with h | h
  rotate_left 1
  · have hlt : ((i : Int) < (l.length : Int)) = False := eq_false (by omega)
    have hr := qc6 (l := l) fun j y hj => hb j y (by have := (List.getElem?_eq_some_iff.1 hj).1; omega) hj
    simp (maxSteps := 400000) only [↓preZ, postZ, coreZ, ↓preU, postU, ↓preA, postA, D_all, F_all, unR, outL, onePV, binS, ↓binS, q03, ↓q03, q01, ↓q01, boxR, q0b, newObj, q05, q00, q06, q09, q0a, St.freeze, q02, q07, q04, BEq.rfl, reduceIte, reduceCtorEq, Nat.reduceLT, Nat.reduceAdd, Nat.reduceSub, Nat.reduceMul, Nat.reduceBEq, Nat.reduceLeDiff, Int.reduceToNat, Int.reduceLE, hQ, hlt, hr]
  have hlt : ((i : Int) < (l.length : Int)) = True := eq_true (by omega)
  have zi : (0 ≤ (i : Int)) = True := eq_true (by omega)
  have hgi := List.getElem?_eq_getElem h
  have hao := ha _ (List.getElem_mem h)
  generalize l[i] = o at hgi hao
  cases hp : q25 o n
  · have hr : idxOf (q2r n) l = i := qf7 hgi (by simp [q2r, hp]) hb
    simp (maxSteps := 400000) only [↓preZ, postZ, coreZ, ↓preU, postU, ↓preA, postA, D_all, F_all, unR, outL, onePV, binS, ↓binS, q03, ↓q03, q01, ↓q01, boxR, q0b, newObj, q05, q00, q06, q09, q0a, St.freeze, q02, q07, q04, BEq.rfl, reduceIte, reduceCtorEq, Nat.reduceLT, Nat.reduceAdd, Nat.reduceSub, Nat.reduceMul, Nat.reduceBEq, Nat.reduceLeDiff, Int.reduceToNat, Int.reduceLE, hQ, hlt, zi, hgi, ↓qb0, hp, hr]
    exact ⟨hao, hn⟩
  · simp (maxSteps := 400000) only [↓preZ, postZ, coreZ, ↓preU, postU, ↓preA, postA, D_all, F_all, unR, outL, onePV, binS, ↓binS, q03, ↓q03, q01, ↓q01, boxR, q0b, newObj, q05, q00, q06, q09, q0a, St.freeze, q02, q07, q04, BEq.rfl, reduceIte, reduceCtorEq, Nat.reduceLT, Nat.reduceAdd, Nat.reduceSub, Nat.reduceMul, Nat.reduceBEq, Nat.reduceLeDiff, Int.reduceToNat, Int.reduceLE, hQ, hlt, zi, hgi, ↓qb0, hp]
    refine ⟨hao, hn, ⟨by omega, by omega⟩, m - 1, by omega, i + 1, by omega, fun j y hj hy => ?_, rfl⟩
    rcases Nat.lt_or_ge j i with g | g
    · exact hb j y g hy
    · have : j = i := by omega
      subst this
      rw [hgi] at hy; cases hy
      simp [q2r, hp]
def q63 (n : Nd) : Ctr := fun args objs K => match args with
  | [a0, a1] => ofE encAs a0 (HK.mk : HK fun l => a1 = (.fn f_atom_Member_1 [] [.addr (encN n)]) ∧ (l.length ≤ 4611686018427387904) ∧ (∀ a ∈ l, CmpOk a.c) ∧ (CmpOk n) ∧ K (.int .i64 (idxOf (q2r n) l)) objs 0)
  | _ => False
theorem qdk (n : Nd) : CtrOk Tryz.prog f_slices_IndexFunc_L_api_Atom_api_Atom_ (q63 n) := by
  intro args objs K h
  unfold q63 at h
  split at h
  · rename_i a0 a1
    obtain ⟨l, rfl, rfl, h1, h2, h3, hk⟩ := h
    exact ⟨_, _, _, .pure _ rfl (qfe l n h1 h2 h3), hk⟩
  · exact h.elim
theorem qff (l : List Atm) (n : Nd) (hl : l.length ≤ 4611686018427387904) (ha : ∀ a ∈ l, CmpOk a.c) (hn : CmpOk n) : FnSpec Tryz.prog f_slices_ContainsFunc_L_api_Atom_api_Atom_ [encAs l, .fn f_atom_Member_1 [] [.addr (encN n)]] [] (.bool (l.any (q2r n))) [] := by
  refine k_slices_ContainsFunc_L_api_Atom_api_Atom_.pureG (T := tabL Tryz.prog [(f_slices_IndexFunc_L_api_Atom_api_Atom_, (q63 n))]) 0 hD (q0e (q0c (qdk n) q0d)) hmix (by decide) fun Q hQ => ?_
  try simp only [F_all]
  simp (maxSteps := 400000) only [↓preZ, postZ, coreZ, ↓preU, postU, ↓preA, postA, D_all, F_all, unR, outL, onePV, binS, ↓binS, q03, ↓q03, q01, ↓q01, boxR, q0b, newObj, q05, q00, q06, q09, q0a, St.freeze, q02, q07, q04, BEq.rfl, reduceIte, reduceCtorEq, Nat.reduceLT, Nat.reduceAdd, Nat.reduceSub, Nat.reduceMul, Nat.reduceBEq, Nat.reduceLeDiff, Int.reduceToNat, Int.reduceLE, hQ, q0v, ↓q63, qf8]
  exact ⟨hl, ha, hn⟩
def q64 (n : Nd) : Ctr := fun args objs K => match args with
  | [a0, a1] => ofE encAs a0 (HK.mk : HK fun l => a1 = (.fn f_atom_Member_1 [] [.addr (encN n)]) ∧ (l.length ≤ 4611686018427387904) ∧ (∀ a ∈ l, CmpOk a.c) ∧ (CmpOk n) ∧ K (.bool (l.any (q2r n))) objs 0)
  | _ => False
theorem qdl (n : Nd) : CtrOk Tryz.prog f_slices_ContainsFunc_L_api_Atom_api_Atom_ (q64 n) := by
  intro args objs K h
  unfold q64 at h
  split at h
  · rename_i a0 a1
    obtain ⟨l, rfl, rfl, h1, h2, h3, hk⟩ := h
    exact ⟨_, _, _, .pure _ rfl (qff l n h1 h2 h3), hk⟩
  · exact h.elim
theorem qnv {mask kind : Int} (hm : 0 ≤ mask ∧ mask ≤ 31) (hk : 0 ≤ kind ∧ kind < 5) : bitsI .and .i64 (mask.fdiv (2 ^ min kind.toNat IntKind.i64.bits)) 1 = if letsB mask kind then 1 else 0 := by
  have key : ∀ (m : Fin 32) (k : Fin 5), bitsI .and .i64 ((m.val : Int).fdiv (2 ^ min k.val IntKind.i64.bits)) 1 = if (m.val / 2 ^ k.val) % 2 == 1 then 1 else 0 := by decide +kernel
  have := key ⟨mask.toNat, by omega⟩ ⟨kind.toNat, by omega⟩
  simp only [Int.toNat_of_nonneg hm.1] at this
  exact this
theorem q5p (mask : Int) (l : List Atm) (n : Nd) (hm : 0 ≤ mask ∧ mask ≤ 31) (hl : l.length ≤ 1000000) (ha : ∀ a ∈ l, CmpOk a.c) (hn : NdSm n) (hs : n.s.length ≤ 1000000) : FnSpec Tryz.prog f_atom_Member [.int .i64 mask, encAs l, encN n] [] (.bool (q0j mask l n)) [] := by
  refine k_atom_Member.pureG (T := tabL Tryz.prog [(f_atom_isPlain, q2v), (f_slices_ContainsFunc_L_api_Atom_api_Atom_, (q64 n))]) 0 hD (q0e (q0c q8t (q0c (qdl n) q0d))) hmix (by decide) fun Q hQ => ?_
  try simp only [F_all]
  simp (maxSteps := 400000) only [↓preZ, postZ, coreZ, ↓preU, postU, ↓preA, postA, D_all, F_all, unR, outL, onePV, binS, ↓binS, q03, ↓q03, q01, ↓q01, boxR, q0b, newObj, q05, q00, q06, q09, q0a, St.freeze, q02, q07, q04, BEq.rfl, reduceIte, reduceCtorEq, Nat.reduceLT, Nat.reduceAdd, Nat.reduceSub, Nat.reduceMul, Nat.reduceBEq, Nat.reduceLeDiff, Int.reduceToNat, Int.reduceLE, hQ, q7c]
  refine q0m _ (Weak.freeze 1 0 (Nat.zero_le _) _) ?_
  cases hp : scalB n
  · have hr : q0j mask l n = false := by simp [q0j, hp]
    simp (maxSteps := 400000) only [↓preZ, postZ, coreZ, ↓preU, postU, ↓preA, postA, D_all, F_all, unR, outL, onePV, binS, ↓binS, q03, ↓q03, q01, ↓q01, boxR, q0b, newObj, q05, q00, q06, q09, q0a, St.freeze, q02, q07, q04, BEq.rfl, reduceIte, reduceCtorEq, Nat.reduceLT, Nat.reduceAdd, Nat.reduceSub, Nat.reduceMul, Nat.reduceBEq, Nat.reduceLeDiff, Int.reduceToNat, Int.reduceLE, hQ, frzC0, ↓q2v, hp, hr]
    exact hn
  have hk := (q23 hp).2.2
  have hbit := qnv hm ⟨hk.1, hk.2.1⟩
  have hk0 : (0 ≤ n.kind) = True := eq_true hk.1
  cases hb : letsB mask n.kind
  · have hr : q0j mask l n = false := by simp [q0j, hb]
    rw [hb, if_neg (by decide)] at hbit
    simp (maxSteps := 400000) only [↓preZ, postZ, coreZ, ↓preU, postU, ↓preA, postA, D_all, F_all, unR, outL, onePV, binS, ↓binS, q03, ↓q03, q01, ↓q01, boxR, q0b, newObj, q05, q00, q06, q09, q0a, St.freeze, q02, q07, q04, BEq.rfl, reduceIte, reduceCtorEq, Nat.reduceLT, Nat.reduceAdd, Nat.reduceSub, Nat.reduceMul, Nat.reduceBEq, Nat.reduceLeDiff, Int.reduceToNat, Int.reduceLE, hQ, frzC0, ↓q2v, hp, hr, binI, hbit, hk0]
    exact hn
  · have hr : q0j mask l n = !(l.any (q2r n)) := by simp [q0j, hp, hb, List.all_eq_not_any_not, q2r]; rfl
    rw [hb, if_pos rfl] at hbit
    simp (maxSteps := 400000) only [↓preZ, postZ, coreZ, ↓preU, postU, ↓preA, postA, D_all, F_all, unR, outL, onePV, binS, ↓binS, q03, ↓q03, q01, ↓q01, boxR, q0b, newObj, q05, q00, q06, q09, q0a, St.freeze, q02, q07, q04, BEq.rfl, reduceIte, reduceCtorEq, Nat.reduceLT, Nat.reduceAdd, Nat.reduceSub, Nat.reduceMul, Nat.reduceBEq, Nat.reduceLeDiff, Int.reduceToNat, Int.reduceLE, hQ, frzC0, ↓q2v, hp, hr, binI, hbit, hk0, ↓q64, Int.reduceEq]
    exact ⟨hn, by omega, ha, hp, hs⟩
end Lp

/-! LpE3 -/

namespace Lp
open Go Go.Proofs
set_option maxHeartbeats 4000000
set_option maxRecDepth 20000
set_option linter.unusedSimpArgs false
theorem q8v (mask : Int) (l : List Atm) (n : Nd) (hm : 0 ≤ mask ∧ mask ≤ 1000000) (hl : l.length ≤ 1000000) (ha : ∀ a ∈ l, CmpOk a.c) (hn : NdSm n) (hs : n.s.length ≤ 1000000) : FnSpec Tryz.prog f_louperef11_Member [.int .i64 mask, encAs l, encN n] [] (.bool (q0j mask l n)) [] := by
  refine k_louperef11_Member.pureG (T := tabL Tryz.prog [(f_louperef11_plain, q2w), (f_louperef11_Lets, qay), (f_louperef11_Holds, q5o)]) 0 hD (q0e (q0c q8u (q0c qji (q0c qfd q0d)))) hmix (by decide) fun Q hQ => ?_
  try simp only [F_all]
  simp (maxSteps := 400000) only [↓preZ, postZ, coreZ, ↓preU, postU, ↓preA, postA, D_all, F_all, unR, outL, onePV, binS, ↓binS, q03, ↓q03, q01, ↓q01, boxR, q0b, newObj, q05, q00, q06, q09, q0a, St.freeze, q02, q07, q04, BEq.rfl, reduceIte, reduceCtorEq, Nat.reduceLT, Nat.reduceAdd, Nat.reduceSub, Nat.reduceMul, Nat.reduceBEq, Nat.reduceLeDiff, Int.reduceToNat, Int.reduceLE, hQ, q3i]
  refine q0m _ (Weak.freeze 1 0 (Nat.zero_le _) _) ?_
  cases hp : scalB n
  · have hr : q0j mask l n = false := by simp [q0j, hp]
    simp (maxSteps := 400000) only [↓preZ, postZ, coreZ, ↓preU, postU, ↓preA, postA, D_all, F_all, unR, outL, onePV, binS, ↓binS, q03, ↓q03, q01, ↓q01, boxR, q0b, newObj, q05, q00, q06, q09, q0a, St.freeze, q02, q07, q04, BEq.rfl, reduceIte, reduceCtorEq, Nat.reduceLT, Nat.reduceAdd, Nat.reduceSub, Nat.reduceMul, Nat.reduceBEq, Nat.reduceLeDiff, Int.reduceToNat, Int.reduceLE, hQ, frzC0, ↓q2w, hp, hr]
    exact hn
  have hk := (q23 hp).2.2
  have hk' : 0 ≤ n.kind ∧ n.kind ≤ 1000000 := ⟨hk.1, by omega⟩
  cases hb : letsB mask n.kind
  · have hr : q0j mask l n = false := by simp [q0j, hb]
    simp (maxSteps := 400000) only [↓preZ, postZ, coreZ, ↓preU, postU, ↓preA, postA, D_all, F_all, unR, outL, onePV, binS, ↓binS, q03, ↓q03, q01, ↓q01, boxR, q0b, newObj, q05, q00, q06, q09, q0a, St.freeze, q02, q07, q04, BEq.rfl, reduceIte, reduceCtorEq, Nat.reduceLT, Nat.reduceAdd, Nat.reduceSub, Nat.reduceMul, Nat.reduceBEq, Nat.reduceLeDiff, Int.reduceToNat, Int.reduceLE, hQ, frzC0, ↓q2w, ↓qay, hp, hr, hb]
    exact ⟨hn, hm, hk'⟩
  have hr : q0j mask l n = l.all fun a => q25 a n := by simp [q0j, hp, hb]
  simp (maxSteps := 400000) only [↓preZ, postZ, coreZ, ↓preU, postU, ↓preA, postA, D_all, F_all, unR, outL, onePV, binS, ↓binS, q03, ↓q03, q01, ↓q01, boxR, q0b, newObj, q05, q00, q06, q09, q0a, St.freeze, q02, q07, q04, BEq.rfl, reduceIte, reduceCtorEq, Nat.reduceLT, Nat.reduceAdd, Nat.reduceSub, Nat.reduceMul, Nat.reduceBEq, Nat.reduceLeDiff, Int.reduceToNat, Int.reduceLE, hQ, frzC0, ↓q2w, ↓qay, hp, hr, hb]
  refine ⟨hn, hm, hk', ?_⟩
  refine q0q (fun m S => ∃ i : Nat, i + m = l.length ∧ (∀ (j : Nat) y, j < i → l[j]? = some y → q25 y n = true) ∧ S = ⟨tmA 31 [(1, encAs l), (5, .addr (encN n)), (7, .int .i64 i)], []⟩) l.length ⟨0, by omega, fun j y h => absurd h (Nat.not_lt_zero j), ?_⟩ ?_
  · simp only [normR, keepR, Nat.reduceAdd, lkR, Nat.reduceBEq, F_all, List.map_nil]
    rfl
  rintro m S ⟨i, him, hbf, rfl⟩
  rcases Nat.lt_or_ge i l.length with h | h
  rotate_left 1
  · have hlt : ((i : Int) < (l.length : Int)) = False := eq_false (by omega)
    have hall : (l.all fun a => q25 a n) = true := List.all_eq_true.2 fun x hx => by
      obtain ⟨j, hj⟩ := List.mem_iff_getElem?.1 hx
      exact hbf j x (by have := (List.getElem?_eq_some_iff.1 hj).1; omega) hj
    simp (maxSteps := 400000) only [↓preZ, postZ, coreZ, ↓preU, postU, ↓preA, postA, D_all, F_all, unR, outL, onePV, binS, ↓binS, q03, ↓q03, q01, ↓q01, boxR, q0b, newObj, q05, q00, q06, q09, q0a, St.freeze, q02, q07, q04, BEq.rfl, reduceIte, reduceCtorEq, Nat.reduceLT, Nat.reduceAdd, Nat.reduceSub, Nat.reduceMul, Nat.reduceBEq, Nat.reduceLeDiff, Int.reduceToNat, Int.reduceLE, hQ, hlt, hr, hall]
  have hlt : ((i : Int) < (l.length : Int)) = True := eq_true (by omega)
  have zi : (0 ≤ (i : Int)) = True := eq_true (by omega)
  have hgi := List.getElem?_eq_getElem h
  have hao := ha _ (List.getElem_mem h)
  have hmem := List.getElem_mem h
  generalize l[i] = o at hgi hao hmem
  cases hh : q25 o n
  · have hall : (l.all fun a => q25 a n) = false := List.all_eq_false.2 ⟨o, hmem, by simp [hh]⟩
    simp (maxSteps := 400000) only [↓preZ, postZ, coreZ, ↓preU, postU, ↓preA, postA, D_all, F_all, unR, outL, onePV, binS, ↓binS, q03, ↓q03, q01, ↓q01, boxR, q0b, newObj, q05, q00, q06, q09, q0a, St.freeze, q02, q07, q04, BEq.rfl, reduceIte, reduceCtorEq, Nat.reduceLT, Nat.reduceAdd, Nat.reduceSub, Nat.reduceMul, Nat.reduceBEq, Nat.reduceLeDiff, Int.reduceToNat, Int.reduceLE, hQ, hlt, zi, hgi, ↓q5o, hh, hr, hall]
    exact ⟨hao, hp, hs⟩
  · simp (maxSteps := 400000) only [↓preZ, postZ, coreZ, ↓preU, postU, ↓preA, postA, D_all, F_all, unR, outL, onePV, binS, ↓binS, q03, ↓q03, q01, ↓q01, boxR, q0b, newObj, q05, q00, q06, q09, q0a, St.freeze, q02, q07, q04, BEq.rfl, reduceIte, reduceCtorEq, Nat.reduceLT, Nat.reduceAdd, Nat.reduceSub, Nat.reduceMul, Nat.reduceBEq, Nat.reduceLeDiff, Int.reduceToNat, Int.reduceLE, hQ, hlt, zi, hgi, ↓q5o, hh]
    refine ⟨hao, ⟨hp, hs⟩, ⟨by omega, by omega⟩, m - 1, by omega, i + 1, by omega, fun j y hj hy => ?_, rfl⟩
    rcases Nat.lt_or_ge j i with g | g
    · exact hbf j y g hy
    · have : j = i := by omega
      subst this
      rw [hgi] at hy; cases hy
      exact hh
def atmB (a : Atm) : Bool := decide (a.c.s.length ≤ 200) && q67 a
def allA (l : List Atm) (most : Int) : Bool := decide ((l.length : Int) ≤ most) && l.all atmB
theorem qmj (l : List Atm) (most : Int) (hm : 0 ≤ most ∧ most ≤ 1000000) (hl : l.length ≤ 4611686018427387904) (hs : ∀ a ∈ l, NdSm a.c) : FnSpec Tryz.prog f_louperef11_All [encAs l, .int .i64 most] [] (.bool (allA l most)) [] := by
  refine k_louperef11_All.pureG (T := tabL Tryz.prog [(f_louperef11_Right, q5m)]) 0 hD (q0e (q0c qfc q0d)) hmix (by decide) fun Q hQ => ?_
  try simp only [F_all]
  simp (maxSteps := 400000) only [↓preZ, postZ, coreZ, ↓preU, postU, ↓preA, postA, D_all, F_all, unR, outL, onePV, binS, ↓binS, q03, ↓q03, q01, ↓q01, boxR, q0b, newObj, q05, q00, q06, q09, q0a, St.freeze, q02, q07, q04, BEq.rfl, reduceIte, reduceCtorEq, Nat.reduceLT, Nat.reduceAdd, Nat.reduceSub, Nat.reduceMul, Nat.reduceBEq, Nat.reduceLeDiff, Int.reduceToNat, Int.reduceLE, hQ, q56]
  refine q0q (fun m S => ∃ i : Nat, i + m = l.length ∧ (i : Int) ≤ most ∧ (∀ (j : Nat) y, j < i → l[j]? = some y → atmB y = true) ∧ S = ⟨tmA 33 [(0, encAs l), (1, .int .i64 most), (5, .int .i64 i)], []⟩) l.length ⟨0, by omega, by omega, fun j y h => absurd h (Nat.not_lt_zero j), ?_⟩ ?_
  · simp only [normR, keepR, Nat.reduceAdd, lkR, Nat.reduceBEq, F_all, List.map_nil]
    rfl
  rintro m S ⟨i, him, hip, hbf, rfl⟩
  rcases Nat.lt_or_ge i l.length with h | h
  rotate_left 1
  · have hlt : ((i : Int) < (l.length : Int)) = False := eq_false (by omega)
    have hall : allA l most = true := by
      simp only [allA, Bool.and_eq_true, decide_eq_true_eq, List.all_eq_true]
      refine ⟨by omega, fun x hx => ?_⟩
      obtain ⟨j, hj⟩ := List.mem_iff_getElem?.1 hx
      exact hbf j x (by have := (List.getElem?_eq_some_iff.1 hj).1; omega) hj
    simp (maxSteps := 400000) only [↓preZ, postZ, coreZ, ↓preU, postU, ↓preA, postA, D_all, F_all, unR, outL, onePV, binS, ↓binS, q03, ↓q03, q01, ↓q01, boxR, q0b, newObj, q05, q00, q06, q09, q0a, St.freeze, q02, q07, q04, BEq.rfl, reduceIte, reduceCtorEq, Nat.reduceLT, Nat.reduceAdd, Nat.reduceSub, Nat.reduceMul, Nat.reduceBEq, Nat.reduceLeDiff, Int.reduceToNat, Int.reduceLE, hQ, hlt, hall]
  have hlt : ((i : Int) < (l.length : Int)) = True := eq_true (by omega)
  have zi : (0 ≤ (i : Int)) = True := eq_true (by omega)
  have hgi := List.getElem?_eq_getElem h
  have hao := hs _ (List.getElem_mem h)
  have hmem := List.getElem_mem h
  generalize l[i] = o at hgi hao hmem
  have bad : atmB o = false → allA l most = false := fun hb => by
    have : l.all atmB = false := List.all_eq_false.2 ⟨o, hmem, by simp [hb]⟩
    simp [allA, this]
  rcases tf (most ≤ (i : Int)) with h1 | h1
  · have hall : allA l most = false := by
      have := of_eq_true h1
      have : ¬ (l.length : Int) ≤ most := by omega
      simp [allA, this]
    simp (maxSteps := 400000) only [↓preZ, postZ, coreZ, ↓preU, postU, ↓preA, postA, D_all, F_all, unR, outL, onePV, binS, ↓binS, q03, ↓q03, q01, ↓q01, boxR, q0b, newObj, q05, q00, q06, q09, q0a, St.freeze, q02, q07, q04, BEq.rfl, reduceIte, reduceCtorEq, Nat.reduceLT, Nat.reduceAdd, Nat.reduceSub, Nat.reduceMul, Nat.reduceBEq, Nat.reduceLeDiff, Int.reduceToNat, Int.reduceLE, hQ, hlt, zi, hgi, h1, hall]
  have h1' := of_eq_false h1
  rcases tf (200 < (o.c.s.length : Int)) with h2 | h2
  · have hall := bad (by have := of_eq_true h2; have : ¬ o.c.s.length ≤ 200 := by omega
                         simp [atmB, this])
    simp (maxSteps := 400000) only [↓preZ, postZ, coreZ, ↓preU, postU, ↓preA, postA, D_all, F_all, unR, outL, onePV, binS, ↓binS, q03, ↓q03, q01, ↓q01, boxR, q0b, newObj, q05, q00, q06, q09, q0a, St.freeze, q02, q07, q04, BEq.rfl, reduceIte, reduceCtorEq, Nat.reduceLT, Nat.reduceAdd, Nat.reduceSub, Nat.reduceMul, Nat.reduceBEq, Nat.reduceLeDiff, Int.reduceToNat, Int.reduceLE, hQ, hlt, zi, hgi, h1, h2, hall]
  have h2' := of_eq_false h2
  cases h3 : q67 o
  · have hall := bad (by simp [atmB, h3])
    simp (maxSteps := 400000) only [↓preZ, postZ, coreZ, ↓preU, postU, ↓preA, postA, D_all, F_all, unR, outL, onePV, binS, ↓binS, q03, ↓q03, q01, ↓q01, boxR, q0b, newObj, q05, q00, q06, q09, q0a, St.freeze, q02, q07, q04, BEq.rfl, reduceIte, reduceCtorEq, Nat.reduceLT, Nat.reduceAdd, Nat.reduceSub, Nat.reduceMul, Nat.reduceBEq, Nat.reduceLeDiff, Int.reduceToNat, Int.reduceLE, hQ, hlt, zi, hgi, h1, h2, ↓q5m, h3, hall]
    exact hao
  · simp (maxSteps := 400000) only [↓preZ, postZ, coreZ, ↓preU, postU, ↓preA, postA, D_all, F_all, unR, outL, onePV, binS, ↓binS, q03, ↓q03, q01, ↓q01, boxR, q0b, newObj, q05, q00, q06, q09, q0a, St.freeze, q02, q07, q04, BEq.rfl, reduceIte, reduceCtorEq, Nat.reduceLT, Nat.reduceAdd, Nat.reduceSub, Nat.reduceMul, Nat.reduceBEq, Nat.reduceLeDiff, Int.reduceToNat, Int.reduceLE, hQ, hlt, zi, hgi, h1, h2, ↓q5m, h3]
    refine ⟨hao, ⟨by omega, by omega⟩, m - 1, by omega, i + 1, by omega, by omega, fun j y hj hy => ?_, rfl⟩
    rcases Nat.lt_or_ge j i with g | g
    · exact hbf j y g hy
    · have : j = i := by omega
      subst this
      rw [hgi] at hy; cases hy
      have : o.c.s.length ≤ 200 := by omega
      simp [atmB, this, h3]
def q45 : Ctr := fun args objs K => match args with
  | [a0, .int .i64 most] => ofE encAs a0 (HK.mk : HK fun l => (0 ≤ most ∧ most ≤ 1000000) ∧ (l.length ≤ 4611686018427387904) ∧ (∀ a ∈ l, NdSm a.c) ∧ K (.bool (allA l most)) objs 0)
  | _ => False
theorem qjl : CtrOk Tryz.prog f_louperef11_All (q45) := by
  intro args objs K h
  unfold q45 at h
  split at h
  · rename_i a0 most
    obtain ⟨l, rfl, h1, h2, h3, hk⟩ := h
    exact ⟨_, _, _, .pure _ rfl (qmj l most h1 h2 h3), hk⟩
  · exact h.elim
def qjm : Ctr := fun args objs K => ∃ mask l n, (args = [.int .i64 mask, encAs l, encN n] ∨ (l = [] ∧ args = [.int .i64 mask, .sl 0 [] (some true), encN n])) ∧ (0 ≤ mask ∧ mask ≤ 31) ∧ l.length ≤ 1000000 ∧ (∀ a ∈ l, CmpOk a.c) ∧ NdSm n ∧ n.s.length ≤ 1000000 ∧ K (.bool (q0j mask l n)) objs 0
theorem q7s : CtrOk Tryz.prog f_atom_Member qjm := by
  rintro args objs K ⟨mask, l, n, rfl | ⟨rfl, rfl⟩, h1, h2, h3, h4, h5, hk⟩
  · exact ⟨_, _, _, .pure _ rfl (q5p mask l n h1 h2 h3 h4 h5), hk⟩
  · refine ⟨_, _, _, .pure _ rfl ((q5p mask [] n h1 h2 h3 h4 h5).arg rfl fun i p q hp hq => ?_), hk⟩
    match i, hp, hq with
    | 0, hp, hq => cases hp; cases hq; exact .refl _
    | 1, hp, hq => cases hp; cases hq; exact qen 0 7
    | 2, hp, hq => cases hp; cases hq; exact .refl _
    | _ + 3, hp, _ => simp at hp
def qjn : Ctr := fun args objs K => ∃ mask l n, (args = [.int .i64 mask, encAs l, encN n] ∨ (l = [] ∧ args = [.int .i64 mask, .sl 0 [] (some true), encN n])) ∧ (0 ≤ mask ∧ mask ≤ 31) ∧ l.length ≤ 1000000 ∧ (∀ a ∈ l, CmpOk a.c) ∧ NdSm n ∧ n.s.length ≤ 1000000 ∧ K (.bool (q0j mask l n)) objs 0
theorem qdm : CtrOk Tryz.prog f_louperef11_Member qjn := by
  rintro args objs K ⟨mask, l, n, rfl | ⟨rfl, rfl⟩, h1, h2, h3, h4, h5, hk⟩
  · exact ⟨_, _, _, .pure _ rfl (q8v mask l n ⟨h1.1, by omega⟩ h2 h3 h4 h5), hk⟩
  · refine ⟨_, _, _, .pure _ rfl ((q8v mask [] n ⟨h1.1, by omega⟩ h2 h3 h4 h5).arg rfl fun i p q hp hq => ?_), hk⟩
    match i, hp, hq with
    | 0, hp, hq => cases hp; cases hq; exact .refl _
    | 1, hp, hq => cases hp; cases hq; exact qen 0 7
    | 2, hp, hq => cases hp; cases hq; exact .refl _
    | _ + 3, hp, _ => simp at hp
end Lp

/-! LpE4 -/

namespace Lp
open Go Go.Proofs Go.RowKit
set_option maxHeartbeats 4000000
set_option maxRecDepth 100000
set_option linter.unusedSimpArgs false
theorem qbk (s : List UInt8) : FnSpec Tryz.prog f_strings_TrimLeft [.str s, .str [48]] [] (.str (Lib.trimLeftB s 48)) [] := by
  refine FnSpec.of_keep ⟨_, Tryz.lays161.f161, by kernel_rfl, by kernel_rfl⟩ fun w vs ok hg hr => ?_
  obtain ⟨u, v, rfl, h, h'⟩ := rep2 hr
  cases q34 h
  cases q34 h'
  refine (Any.strings_TrimLeft_one Tryz.lays161 ⟨⟨s⟩⟩ 48 (by decide) w).mono ?_
  rintro e w' ⟨h1, rfl⟩
  exact ⟨_, h1, fun w ok => .str _, .refl _ _⟩
theorem qb1 (s : List UInt8) (c : UInt8) (hc : c.toNat < 128) (hs : s.length ≤ 4611686018427387904) : FnSpec Tryz.prog f_strings_TrimRight [.str s, .str [c]] [] (.str (Lib.trimRightB s c)) [] := by
  refine FnSpec.of_keep ⟨_, Tryz.lays162.f162, by kernel_rfl, by kernel_rfl⟩ fun w vs ok hg hr => ?_
  obtain ⟨u, v, rfl, h, h'⟩ := rep2 hr
  cases q34 h
  cases q34 h'
  refine (Any.strings_TrimRight_one Tryz.lays162 ⟨⟨s⟩⟩ c hc w (by rw [Lib.size_eq]; simp; omega)).mono ?_
  rintro e w' ⟨h1, rfl⟩
  exact ⟨_, h1, fun w ok => .str _, .refl _ _⟩
def q2f : Ctr := fun args objs K => match args with
  | [.str s, a1] => a1 = (.str [48]) ∧ K (.str (Lib.trimLeftB s 48)) objs 0
  | _ => False
theorem qfg : CtrOk Tryz.prog f_strings_TrimLeft (q2f) := by
  intro args objs K h
  unfold q2f at h
  split at h
  · rename_i s a1
    obtain ⟨rfl, hk⟩ := h
    exact ⟨_, _, _, .pure _ rfl (qbk s), hk⟩
  · exact h.elim
def q1w (c : UInt8) : Ctr := fun args objs K => match args with
  | [.str s, a1] => a1 = (.str [c]) ∧ (c.toNat < 128) ∧ (s.length ≤ 4611686018427387904) ∧ K (.str (Lib.trimRightB s c)) objs 0
  | _ => False
theorem q5q (c : UInt8) : CtrOk Tryz.prog f_strings_TrimRight (q1w c) := by
  intro args objs K h
  unfold q1w at h
  split at h
  · rename_i s a1
    obtain ⟨rfl, h1, h2, hk⟩ := h
    exact ⟨_, _, _, .pure _ rfl (qb1 s c h1 h2), hk⟩
  · exact h.elim
theorem qnw : Builder.Extra Tryz.prog Tryz.lays105_ren where
  sizeBuilder := by kernel_rfl
  liesBuilder := by kernel_rfl
  t5 := Tryz.lays105.t5
  a5 := Tryz.lays105.a5
  z5 := Tryz.lays105.z5
  v5 := Tryz.lays105.v5
  infoByte := by kernel_rfl
  cellsByte := by kernel_rfl
  sizeByte := by kernel_rfl
  neB5 := by decide
theorem qb2 (c : UInt8) : ∀ n, Lib.repeatL [c] n = List.replicate n c
  | 0 => rfl
  | n + 1 => by rw [Lib.repeatL, qb2 c n, List.replicate_succ]; rfl
theorem qh0 (c : UInt8) (n : Int) (h : 0 ≤ n ∧ n ≤ 1000000000) : FnSpec Tryz.prog f_strings_Repeat [.str [c], .int .i64 n] [] (.str (List.replicate n.toNat c)) [] := by
  obtain ⟨n, rfl⟩ : ∃ k : Nat, n = k := ⟨n.toNat, by omega⟩
  refine FnSpec.of_keep ⟨_, Tryz.lays105.f105, by kernel_rfl, by kernel_rfl⟩ fun w vs ok hg hr => ?_
  obtain ⟨u, v, rfl, h, h'⟩ := rep2 hr
  cases q34 h
  cases qnu h'
  refine (Any.strings_Repeat Tryz.lays105 qnw ⟨⟨[c]⟩⟩ n w (by omega) (by rw [Lib.size_eq]; simp; omega)).mono ?_
  rintro e w' ⟨h1, h2⟩
  refine ⟨_, h1, fun w ok => ?_, h2⟩
  have e1 : (⟨⟨[c]⟩⟩ : ByteArray).data.toList = [c] := rfl
  rw [e1, qb2]
  exact .str _
def q3n (c : UInt8) : Ctr := fun args objs K => match args with
  | [a0, .int .i64 n] => a0 = (.str [c]) ∧ (0 ≤ n ∧ n ≤ 1000000000) ∧ K (.str (List.replicate n.toNat c)) objs 0
  | _ => False
theorem q88 (c : UInt8) : CtrOk Tryz.prog f_strings_Repeat (q3n c) := by
  intro args objs K h
  unfold q3n at h
  split at h
  · rename_i a0 n
    obtain ⟨rfl, h1, hk⟩ := h
    exact ⟨_, _, _, .pure _ rfl (qh0 c n h1), hk⟩
  · exact h.elim
theorem FnOk.pureCT {P : Program} {D : TypeId → TInfo} {T : Know} {f : FuncId} {n t u : Nat} {ty : TypeId} {C : LC} {args : List PV} {r : PV} (h : FnOk P f n [.cell t ty, .tmp u] C) (d : Nat) (hD : ∀ t, TOk P t (D t)) (hT : KOk P none Etop T) (hm : P.follows .mixedOrders = true) (ht : t < n) (hu : u < n)
    (hw : ∀ Q : Exit → St → Prop, (∀ l ob, Q .ret ⟨tmA n l, ob⟩ = loadR (D ty) (lkA l t) ob fun p _ _ => r = .tup [frzT d 0 ob p, frzT d 0 ob (lkA l u)]) → wpc P D T C Q (q13 args n)) : FnSpec P f args [] r [] := by
  refine h.pure d hD hT hm (by simp) (hw _ fun l ob => ?_)
  simp only [retR, outL, taR2.2.1 n l t ht, taR2.2.1 n l u hu, List.map_cons, List.map_nil, onePV]
def makeR (neg : Bool) (f : List UInt8) (e : Int) : PV := .tup [encN (makeN neg f e).1, .int .i64 (makeN neg f e).2]
theorem q4n (s : List UInt8) (c : UInt8) : (Lib.trimRightB s c).length ≤ s.length := by
  unfold Lib.trimRightB
  rw [List.length_reverse]
  exact Nat.le_trans (List.dropWhile_suffix _).length_le (by rw [List.length_reverse]; exact Nat.le_refl _)
theorem qjo (s : List UInt8) (c : UInt8) : (Lib.trimLeftB s c).length ≤ s.length := (List.dropWhile_suffix _).length_le
theorem qmk (neg : Bool) (f : List UInt8) (e : Int) (hf : f.length ≤ 1000000) (he : -1000000000 ≤ e ∧ e ≤ 1000000000) : FnSpec Tryz.prog f_num_Make [.bool neg, .str f, .int .i64 e] [] (makeR neg f e) [] := by
  refine k_num_Make.pureCT (T := tabL Tryz.prog [(f_num_isFigures, q0r), (f_strings_TrimLeft, q2f), (f_strings_TrimRight, q1w 48), (f_num_isPower, q1r)]) 0 hD (q0e (q0c q5l (q0c qfg (q0c (q5q 48) (q0c q7p q0d))))) hmix (by decide) (by decide) fun Q hQ => ?_
  try simp only [F_all]
  have c48 : (48 : UInt8).toNat < 128 := by decide
  have hf' : f.length ≤ 4611686018427387904 := by omega
  have hlL := qjo f 48
  generalize hs : Lib.trimLeftB f 48 = s at *
  have hlR := q4n s 48
  generalize ht : Lib.trimRightB s 48 = t at *
  cases h1 : figs f
  · have hr : makeR neg f e = .tup [encN ⟨0, 0, [], [], false, 0⟩, .int .i64 4] := by simp [makeR, makeN, h1, zeroN]
    simp (maxSteps := 400000) only [↓preZ, postZ, coreZ, ↓preU, postU, ↓preA, postA, D_all, F_all, unR, outL, onePV, binS, ↓binS, q03, ↓q03, q01, ↓q01, boxR, q0b, newObj, q05, q00, q06, q09, q0a, St.freeze, q02, q07, q04, BEq.rfl, reduceIte, reduceCtorEq, Nat.reduceLT, Nat.reduceAdd, Nat.reduceSub, Nat.reduceMul, Nat.reduceBEq, Nat.reduceLeDiff, Int.reduceToNat, Int.reduceLE, hQ, q29, ↓q0r, h1, hr, nodeZ, nodeW]
    repeat' (first | omega | exact c48 | refine ⟨?_, ?_⟩)
  by_cases h2 : s = []
  · have hr : makeR neg f e = .tup [encN ⟨3, 0, [], [], false, 0⟩, .int .i64 0] := by simp [makeR, makeN, h1, hs, h2]
    have h2' : (s = []) = True := eq_true h2
    simp (maxSteps := 400000) only [↓preZ, postZ, coreZ, ↓preU, postU, ↓preA, postA, D_all, F_all, unR, outL, onePV, binS, ↓binS, q03, ↓q03, q01, ↓q01, boxR, q0b, newObj, q05, q00, q06, q09, q0a, St.freeze, q02, q07, q04, BEq.rfl, reduceIte, reduceCtorEq, Nat.reduceLT, Nat.reduceAdd, Nat.reduceSub, Nat.reduceMul, Nat.reduceBEq, Nat.reduceLeDiff, Int.reduceToNat, Int.reduceLE, hQ, q29, ↓q0r, ↓q2f, h1, hs, h2', hr, nodeZ, nodeW]
    repeat' (first | omega | exact c48 | refine ⟨?_, ?_⟩)
  have h2' : (s = []) = False := eq_false h2
  rcases tf (e < -100000000) with h3 | h3
  · have hr : makeR neg f e = .tup [encN ⟨0, 0, [], [], false, 0⟩, .int .i64 2] := by simp [makeR, makeN, h1, hs, h2, of_eq_true h3, zeroN]
    simp (maxSteps := 400000) only [↓preZ, postZ, coreZ, ↓preU, postU, ↓preA, postA, D_all, F_all, unR, outL, onePV, binS, ↓binS, q03, ↓q03, q01, ↓q01, boxR, q0b, newObj, q05, q00, q06, q09, q0a, St.freeze, q02, q07, q04, BEq.rfl, reduceIte, reduceCtorEq, Nat.reduceLT, Nat.reduceAdd, Nat.reduceSub, Nat.reduceMul, Nat.reduceBEq, Nat.reduceLeDiff, Int.reduceToNat, Int.reduceLE, hQ, q29, ↓q0r, ↓q2f, h1, hs, h2', h3, hr, nodeZ, nodeW]
    repeat' (first | omega | exact c48 | refine ⟨?_, ?_⟩)
  rcases tf (100000000 < e) with h4 | h4
  · have hr : makeR neg f e = .tup [encN ⟨0, 0, [], [], false, 0⟩, .int .i64 2] := by simp [makeR, makeN, h1, hs, h2, of_eq_true h4, zeroN]
    simp (maxSteps := 400000) only [↓preZ, postZ, coreZ, ↓preU, postU, ↓preA, postA, D_all, F_all, unR, outL, onePV, binS, ↓binS, q03, ↓q03, q01, ↓q01, boxR, q0b, newObj, q05, q00, q06, q09, q0a, St.freeze, q02, q07, q04, BEq.rfl, reduceIte, reduceCtorEq, Nat.reduceLT, Nat.reduceAdd, Nat.reduceSub, Nat.reduceMul, Nat.reduceBEq, Nat.reduceLeDiff, Int.reduceToNat, Int.reduceLE, hQ, q29, ↓q0r, ↓q2f, h1, hs, h2', h3, h4, hr, nodeZ, nodeW]
    repeat' (first | omega | exact c48 | refine ⟨?_, ?_⟩)
  have h3' := of_eq_false h3
  have h4' := of_eq_false h4
  rcases tf (100 < (t.length : Int)) with h5 | h5
  · have hr : makeR neg f e = .tup [encN ⟨0, 0, [], [], false, 0⟩, .int .i64 2] := by
      have : 100 < t.length := by have := of_eq_true h5; omega
      simp [makeR, makeN, h1, hs, h2, h3', h4', ht, this, zeroN]
    simp (maxSteps := 400000) only [↓preZ, postZ, coreZ, ↓preU, postU, ↓preA, postA, D_all, F_all, unR, outL, onePV, binS, ↓binS, q03, ↓q03, q01, ↓q01, boxR, q0b, newObj, q05, q00, q06, q09, q0a, St.freeze, q02, q07, q04, BEq.rfl, reduceIte, reduceCtorEq, Nat.reduceLT, Nat.reduceAdd, Nat.reduceSub, Nat.reduceMul, Nat.reduceBEq, Nat.reduceLeDiff, Int.reduceToNat, Int.reduceLE, hQ, q29, ↓q0r, ↓q2f, ↓q1w, h1, hs, ht, h2', h3, h4, h5, hr, nodeZ, nodeW]
    repeat' (first | omega | exact c48 | refine ⟨?_, ?_⟩)
  have h5' : ¬ 100 < t.length := by have := of_eq_false h5; omega
  have hpb : isPow t.length (e + (s.length - t.length)) = powB t.length (e + (s.length - t.length)) := rfl
  cases h6 : powB t.length (e + (s.length - t.length))
  · have hr : makeR neg f e = .tup [encN ⟨0, 0, [], [], false, 0⟩, .int .i64 2] := by
      simp [makeR, makeN, h1, hs, h2, h3', h4', ht, hpb, h6, zeroN]
    simp (maxSteps := 400000) only [↓preZ, postZ, coreZ, ↓preU, postU, ↓preA, postA, D_all, F_all, unR, outL, onePV, binS, ↓binS, q03, ↓q03, q01, ↓q01, boxR, q0b, newObj, q05, q00, q06, q09, q0a, St.freeze, q02, q07, q04, BEq.rfl, reduceIte, reduceCtorEq, Nat.reduceLT, Nat.reduceAdd, Nat.reduceSub, Nat.reduceMul, Nat.reduceBEq, Nat.reduceLeDiff, Int.reduceToNat, Int.reduceLE, hQ, q29, ↓q0r, ↓q2f, ↓q1w, ↓q1r, h1, hs, ht, h2', h3, h4, h5, h6, hr, nodeZ, nodeW]
    repeat' (first | omega | exact c48 | refine ⟨?_, ?_⟩)
  · have hr : makeR neg f e = .tup [encN ⟨3, 0, [], t, neg, e + (s.length - t.length)⟩, .int .i64 0] := by
      simp [makeR, makeN, h1, hs, h2, h3', h4', ht, hpb, h6, h5']
    simp (maxSteps := 400000) only [↓preZ, postZ, coreZ, ↓preU, postU, ↓preA, postA, D_all, F_all, unR, outL, onePV, binS, ↓binS, q03, ↓q03, q01, ↓q01, boxR, q0b, newObj, q05, q00, q06, q09, q0a, St.freeze, q02, q07, q04, BEq.rfl, reduceIte, reduceCtorEq, Nat.reduceLT, Nat.reduceAdd, Nat.reduceSub, Nat.reduceMul, Nat.reduceBEq, Nat.reduceLeDiff, Int.reduceToNat, Int.reduceLE, hQ, q29, ↓q0r, ↓q2f, ↓q1w, ↓q1r, h1, hs, ht, h2', h3, h4, h5, h6, hr, nodeZ, nodeW]
    repeat' (first | omega | exact c48 | refine ⟨?_, ?_⟩)
theorem qml (neg : Bool) (f : List UInt8) (e : Int) : (makeN neg f e).1.s.length ≤ 100 := by
  unfold makeN
  split
  · simp [zeroN]
  split
  · simp
  split
  · simp [zeroN]
  split
  · simp [zeroN]
  · rename_i h
    have := fun h' => h (.inl h')
    simpa using this
def q6s : Ctr := fun args objs K => match args with
  | [.bool neg, .str f, .int .i64 e] => (f.length ≤ 1000000) ∧ (-1000000000 ≤ e ∧ e ≤ 1000000000) ∧ K (makeR neg f e) objs 0
  | _ => False
theorem qjp : CtrOk Tryz.prog f_num_Make (q6s) := by
  intro args objs K h
  unfold q6s at h
  split at h
  · rename_i neg f e
    obtain ⟨h1, h2, hk⟩ := h
    exact ⟨_, _, _, .pure _ rfl (qmk neg f e h1 h2), hk⟩
  · exact h.elim
end Lp

/-! LpE5 -/

namespace Lp
open Go Go.Proofs Go.RowKit
set_option maxHeartbeats 4000000
set_option maxRecDepth 100000
set_option linter.unusedSimpArgs false
theorem qfh (c : UInt8) (h : c.toNat < 128) : (Utf8.encode (c.toNat : Int)).data.toList = [c] := by
  have hv : Utf8.valid (c.toNat : Int) = true := by
    simp only [Utf8.valid, Bool.or_eq_true, Bool.and_eq_true, decide_eq_true_eq]
    exact .inl ⟨by omega, by omega⟩
  simp only [Utf8.encode, hv, if_true, Int.toNat_natCast, if_pos h]
  show [UInt8.ofNat c.toNat] = [c]
  simp
theorem qc8 {s : List UInt8} {c : UInt8} (h : 0 < (Lib.trimRightB s c).length) : ∃ d, s[(Lib.trimRightB s c).length - 1]? = some d ∧ d ≠ c := by
  have hsuf : (s.reverse.dropWhile (· == c)) ≠ [] := by
    intro hh; simp [Lib.trimRightB, hh] at h
  obtain ⟨d, r, hr⟩ := List.exists_cons_of_ne_nil hsuf
  have hd : d ≠ c := by
    have := List.head_dropWhile_not (· == c) (l := s.reverse) hsuf
    simp only [hr, List.head_cons] at this
    simpa using this
  have hpre : Lib.trimRightB s c <+: s := by
    unfold Lib.trimRightB
    have := List.dropWhile_suffix (l := s.reverse) (· == c)
    rwa [← List.reverse_prefix, List.reverse_reverse] at this
  have ht : Lib.trimRightB s c = r.reverse ++ [d] := by simp [Lib.trimRightB, hr]
  rw [ht] at hpre ⊢
  obtain ⟨q, hq⟩ := hpre
  refine ⟨d, ?_, hd⟩
  rw [← hq, List.getElem?_append_left (by simp)]
  simp
theorem qok {c : UInt8} : IntKind.i32.wrap (c.toNat : Int) = (c.toNat : Int) := by
  have h := c.toNat_lt
  have hm : (c.toNat : Int) % 4294967296 = c.toNat := by omega
  unfold IntKind.wrap
  simp [IntKind.bits, IntKind.signed, hm]
  omega
theorem qvq (s : List UInt8) (hf : figs s = true) (hs : s.length ≤ 1000000) : FnSpec Tryz.prog f_atom_up [.str s] [] (.str (upS s)) [] := by
  refine k_atom_up.pureG (T := tabL Tryz.prog [(f_strings_TrimRight, (q1w 57)), (f_strings_Repeat, (q3n 48))]) 0 hD (q0e (q0c (q5q 57) (q0c (q88 48) q0d))) hmix (by decide) fun Q hQ => ?_
  try simp only [F_all]
  have hle := q4n s 57
  have c57 : (57 : UInt8).toNat < 128 := by decide
  by_cases h0 : (Lib.trimRightB s 57).length = 0
  · have h0' : (((Lib.trimRightB s 57).length : Int) = 0) = True := eq_true (by omega)
    have hr : upS s = 49 :: List.replicate s.length 48 := by simp [upS, h0]
    simp (maxSteps := 400000) only [↓preZ, postZ, coreZ, ↓preU, postU, ↓preA, postA, D_all, F_all, unR, outL, onePV, binS, ↓binS, q03, ↓q03, q01, ↓q01, boxR, q0b, newObj, q05, q00, q06, q09, q0a, St.freeze, q02, q07, q04, BEq.rfl, reduceIte, reduceCtorEq, Nat.reduceLT, Nat.reduceAdd, Nat.reduceSub, Nat.reduceMul, Nat.reduceBEq, Nat.reduceLeDiff, Int.reduceToNat, Int.reduceLE, hQ, qaf, ↓q1w, ↓q3n, h0', hr]
    have e : ((s.length : Int) - ((Lib.trimRightB s 57).length : Int)).toNat = s.length := by omega
    rw [e]
    exact ⟨c57, by omega, by omega, by omega, by omega, rfl⟩
  · have h0' : (((Lib.trimRightB s 57).length : Int) = 0) = False := eq_false (by omega)
    obtain ⟨d, hd, hne⟩ := qc8 (s := s) (c := 57) (by omega)
    have hdf := q4v hf hd
    have hr : upS s = s.take ((Lib.trimRightB s 57).length - 1) ++ (d + 1) :: List.replicate (s.length - (Lib.trimRightB s 57).length) 48 := by simp [upS, h0, List.getD_eq_getElem?_getD, hd]
    generalize hn : (Lib.trimRightB s 57).length = n at *
    have e1 : ((n : Int) - 1).toNat = n - 1 := by omega
    have e2 : ((s.length : Int) - (n : Int)).toNat = s.length - n := by omega
    have hd57 : d.toNat ≤ 56 := by
      have : d.toNat ≠ 57 := fun h => hne (UInt8.toNat_inj.1 h)
      omega
    have e3 : ((d + 1).toNat : Int) = (d.toNat : Int) + 1 := by
      rw [UInt8.toNat_add]
      have : (1 : UInt8).toNat = 1 := rfl
      omega
    have e4 : IntKind.i32.wrap ((d.toNat : Int) + 1) = ((d + 1).toNat : Int) := by rw [← e3]; exact qok
    have e5 := qfh (d + 1) (by omega)
    simp (maxSteps := 400000) only [↓preZ, postZ, coreZ, ↓preU, postU, ↓preA, postA, D_all, F_all, unR, outL, onePV, binS, ↓binS, q03, ↓q03, q01, ↓q01, boxR, q0b, newObj, q05, q00, q06, q09, q0a, St.freeze, q02, q07, q04, BEq.rfl, reduceIte, reduceCtorEq, Nat.reduceLT, Nat.reduceAdd, Nat.reduceSub, Nat.reduceMul, Nat.reduceBEq, Nat.reduceLeDiff, Int.reduceToNat, Int.reduceLE, hQ, qaf, ↓q1w, ↓q3n, hn, h0', hr, e1, e2, hd, convO, convR, e4, e5, List.drop_zero, List.length_take, List.append_assoc, List.cons_append, List.nil_append]
    repeat' (first | omega | exact c57 | exact trivial | refine ⟨?_, ?_⟩)
def ctrUp : Ctr := fun args objs K => match args with
  | [.str s] => (figs s = true) ∧ (s.length ≤ 1000000) ∧ K (.str (upS s)) objs 0
  | _ => False
theorem qnx : CtrOk Tryz.prog f_atom_up (ctrUp) := by
  intro args objs K h
  unfold ctrUp at h
  split at h
  · rename_i s
    obtain ⟨h1, h2, hk⟩ := h
    exact ⟨_, _, _, .pure _ rfl (qvq s h1 h2), hk⟩
  · exact h.elim
theorem qmm (s : List UInt8) (hf : figs s = true) (h0 : 0 < (Lib.trimRightB s 48).length) (hs : s.length ≤ 1000000) : FnSpec Tryz.prog f_atom_down [.str s] [] (.str (downS s)) [] := by
  refine k_atom_down.pureG (T := tabL Tryz.prog [(f_strings_TrimRight, (q1w 48)), (f_strings_Repeat, (q3n 57))]) 0 hD (q0e (q0c (q5q 48) (q0c (q88 57) q0d))) hmix (by decide) fun Q hQ => ?_
  try simp only [F_all]
  have hle := q4n s 48
  have c48 : (48 : UInt8).toNat < 128 := by decide
  obtain ⟨d, hd, hne⟩ := qc8 (s := s) (c := 48) h0
  have hdf := q4v hf hd
  have hr : downS s = s.take ((Lib.trimRightB s 48).length - 1) ++ (d - 1) :: List.replicate (s.length - (Lib.trimRightB s 48).length) 57 := by simp [downS, List.getD_eq_getElem?_getD, hd]
  generalize hn : (Lib.trimRightB s 48).length = n at *
  have e1 : ((n : Int) - 1).toNat = n - 1 := by omega
  have e2 : ((s.length : Int) - (n : Int)).toNat = s.length - n := by omega
  have hd48 : 49 ≤ d.toNat := by
    have : d.toNat ≠ 48 := fun h => hne (UInt8.toNat_inj.1 h)
    omega
  have e3 : ((d - 1).toNat : Int) = (d.toNat : Int) - 1 := by
    rw [UInt8.toNat_sub_of_le _ _ (by rw [UInt8.le_iff_toNat_le]; have : (1 : UInt8).toNat = 1 := rfl; omega)]
    have : (1 : UInt8).toNat = 1 := rfl
    omega
  have e4 : IntKind.i32.wrap ((d.toNat : Int) - 1) = ((d - 1).toNat : Int) := by rw [← e3]; exact qok
  have e5 := qfh (d - 1) (by omega)
  simp (maxSteps := 400000) only [↓preZ, postZ, coreZ, ↓preU, postU, ↓preA, postA, D_all, F_all, unR, outL, onePV, binS, ↓binS, q03, ↓q03, q01, ↓q01, boxR, q0b, newObj, q05, q00, q06, q09, q0a, St.freeze, q02, q07, q04, BEq.rfl, reduceIte, reduceCtorEq, Nat.reduceLT, Nat.reduceAdd, Nat.reduceSub, Nat.reduceMul, Nat.reduceBEq, Nat.reduceLeDiff, Int.reduceToNat, Int.reduceLE, hQ, qag, ↓q1w, ↓q3n, hn, hr, e1, e2, hd, convO, convR, e4, e5, List.drop_zero, List.length_take, List.append_assoc, List.cons_append, List.nil_append]
  repeat' (first | omega | exact c48 | exact trivial | refine ⟨?_, ?_⟩)
def qb3 : Ctr := fun args objs K => match args with
  | [.str s] => (figs s = true) ∧ (0 < (Lib.trimRightB s 48).length) ∧ (s.length ≤ 1000000) ∧ K (.str (downS s)) objs 0
  | _ => False
theorem qjq : CtrOk Tryz.prog f_atom_down (qb3) := by
  intro args objs K h
  unfold qb3 at h
  split at h
  · rename_i s
    obtain ⟨h1, h2, h3, hk⟩ := h
    exact ⟨_, _, _, .pure _ rfl (qmm s h1 h2 h3), hk⟩
  · exact h.elim
end Lp

/-! LpE6 -/

namespace Lp
open Go Go.Proofs Go.RowKit
set_option maxHeartbeats 4000000
set_option maxRecDepth 100000
set_option linter.unusedSimpArgs false
structure NumR (n : Nd) : Prop where
  len : n.s.length ≤ 100
  figs : figs n.s = true
  lo : -1000 ≤ n.e
  hi : n.e ≤ 1000
  last : n.s ≠ [] → 0 < (Lib.trimRightB n.s 48).length
def q2g (n : Nd) (above : Bool) : PV := .tup [encN (q0y n above).1, .bool (q0y n above).2]
theorem qh1 (a b : List UInt8) (ha : figs a = true) (hb : figs b = true) : figs (a ++ b) = true := by
  unfold figs at *
  simp only [List.all_append, ha, hb, Bool.and_self]
theorem qny (n : Nat) : figs (List.replicate n 48) = true := by
  unfold figs
  rw [List.all_eq_true]
  intro x hx
  rw [(List.mem_replicate.1 hx).2]
  decide
theorem qmn (s : List UInt8) (n : Nat) : Lib.trimRightB (s ++ List.replicate n 48) 48 = Lib.trimRightB s 48 := by
  have : ∀ (k : Nat) (l : List UInt8), List.dropWhile (· == (48 : UInt8)) (List.replicate k 48 ++ l) = List.dropWhile (· == (48 : UInt8)) l := by
    intro k l
    induction k with
    | zero => rfl
    | succ k ih => rw [List.replicate_succ, List.cons_append, List.dropWhile_cons]; simp [ih]
  unfold Lib.trimRightB
  rw [List.reverse_append, List.reverse_replicate, this]
theorem qvr (s : List UInt8) : (upS s).length ≤ s.length + 1 := by
  unfold upS
  have := q4n s 57
  split
  · simp
  · simp only [List.length_append, List.length_take, List.length_cons, List.length_replicate]; omega
theorem qmo (s : List UInt8) : (downS s).length ≤ s.length + 1 := by
  unfold downS
  have := q4n s 48
  simp only [List.length_append, List.length_take, List.length_cons, List.length_replicate]; omega
theorem qvs (above : Bool) : makeR (!above) [49] (-1000) = .tup [encN ⟨3, 0, [], [49], !above, -1000⟩, .int .i64 0] := by
  cases above <;> rfl
theorem qh2 (n : Nd) (above : Bool) (hn : NumR n) : FnSpec Tryz.prog f_atom_Beside [encN n, .bool above] [] (q2g n above) [] := by
  refine k_atom_Beside.pureCT (T := tabL Tryz.prog [(f_num_Make, q6s), (f_strings_Repeat, q3n 48), (f_atom_up, ctrUp), (f_atom_down, qb3)]) 0 hD (q0e (q0c qjp (q0c (q88 48) (q0c qnx (q0c qjq q0d))))) hmix (by decide) (by decide) fun Q hQ => ?_
  try simp only [F_all]
  by_cases hs : n.s = []
  · have hr : q2g n above = .tup [encN ⟨3, 0, [], [49], !above, -1000⟩, .bool true] := by simp [q2g, q0y, hs]
    have b0 := qvs above
    simp (maxSteps := 400000) only [↓preZ, postZ, coreZ, ↓preU, postU, ↓preA, postA, D_all, F_all, unR, outL, onePV, binS, ↓binS, q03, ↓q03, q01, ↓q01, boxR, q0b, newObj, q05, q00, q06, q09, q0a, St.freeze, q02, q07, q04, BEq.rfl, reduceIte, reduceCtorEq, Nat.reduceLT, Nat.reduceAdd, Nat.reduceSub, Nat.reduceMul, Nat.reduceBEq, Nat.reduceLeDiff, Int.reduceToNat, Int.reduceLE, hQ, q2d, ↓q6s, b0, hs, hr, nodeZ, nodeW, q16]
  have hs' : (n.s = []) = False := eq_false hs
  have l1 := hn.len
  have l2 := hn.lo
  have l3 := hn.hi
  have hE : ∀ T : Int, fineE n above = max (T - 100) (-1000) → (if (-1000 : Int) > T - 100 then (-1000 : Int) else T - 100) = fineE n above := fun T h => by rw [h]; split <;> omega
  have l4 : (0 : Int) < n.s.length := by
    cases h : n.s with
    | nil => exact absurd h hs
    | cons x r => simp
  have hEb : -1000 ≤ fineE n above ∧ fineE n above ≤ 1000 ∧ fineE n above ≤ n.e := by
    unfold fineE
    split <;> omega
  generalize hEE : fineE n above = E at *
  have hpad : padS n E = n.s ++ List.replicate (n.e - E).toNat 48 := rfl
  have hpl : (padS n E).length ≤ 3000 := by rw [hpad, List.length_append, List.length_replicate]; omega
  have hpf : figs (padS n E) = true := qh1 _ _ hn.figs (qny _)
  have hpt : 0 < (Lib.trimRightB (padS n E) 48).length := by rw [hpad, qmn]; exact hn.last hs
  have hul := qvr (padS n E)
  have hdl := qmo (padS n E)
  have hpl' : n.s.length + (n.e - E).toNat ≤ 3000 := by have := hpl; rw [hpad, List.length_append, List.length_replicate] at this; exact this
  have hpp : (padS n E).length = n.s.length + (n.e - E).toNat := by rw [hpad, List.length_append, List.length_replicate]
  by_cases hg : n.neg = above
  · have hg' : (n.neg = above) = True := eq_true hg
    have hr : q2g n above = .tup [encN (makeN n.neg (downS (padS n E)) E).1, .bool (decide ((makeN n.neg (downS (padS n E)) E).2 = 0))] := by
      simp only [q2g, q0y, if_neg hs, if_pos hg, hEE]
    by_cases h49 : n.s = [49]
    · have h49' : (n.s = [49]) = True := eq_true h49
      have hEe := hE (n.s.length + n.e - 1) (by rw [← hEE]; unfold fineE; rw [if_pos ⟨hg, h49⟩])
      simp (maxSteps := 400000) only [↓preZ, postZ, coreZ, ↓preU, postU, ↓preA, postA, D_all, F_all, unR, outL, onePV, binS, ↓binS, q03, ↓q03, q01, ↓q01, boxR, q0b, newObj, q05, q00, q06, q09, q0a, St.freeze, q02, q07, q04, BEq.rfl, reduceIte, reduceCtorEq, Nat.reduceLT, Nat.reduceAdd, Nat.reduceSub, Nat.reduceMul, Nat.reduceBEq, Nat.reduceLeDiff, Int.reduceToNat, Int.reduceLE, hQ, q2d, ↓q6s, ↓q3n, ↓qb3, hs', hg', h49', nodeZ, nodeW, q16, hEe, ← hpad, hr, makeR]
      repeat' (first | omega | exact hpf | exact hpt | exact (by decide) | refine ⟨?_, ?_⟩)
    · have h49' : (n.s = [49]) = False := eq_false h49
      have hEe := hE (n.s.length + n.e) (by rw [← hEE]; unfold fineE; rw [if_neg fun h => h49 h.2])
      simp (maxSteps := 400000) only [↓preZ, postZ, coreZ, ↓preU, postU, ↓preA, postA, D_all, F_all, unR, outL, onePV, binS, ↓binS, q03, ↓q03, q01, ↓q01, boxR, q0b, newObj, q05, q00, q06, q09, q0a, St.freeze, q02, q07, q04, BEq.rfl, reduceIte, reduceCtorEq, Nat.reduceLT, Nat.reduceAdd, Nat.reduceSub, Nat.reduceMul, Nat.reduceBEq, Nat.reduceLeDiff, Int.reduceToNat, Int.reduceLE, hQ, q2d, ↓q6s, ↓q3n, ↓qb3, hs', hg', h49', nodeZ, nodeW, q16, hEe, ← hpad, hr, makeR]
      repeat' (first | omega | exact hpf | exact hpt | exact (by decide) | refine ⟨?_, ?_⟩)
  · have hg' : (n.neg = above) = False := eq_false hg
    have hr : q2g n above = .tup [encN (makeN n.neg (upS (padS n E)) E).1, .bool (decide ((makeN n.neg (upS (padS n E)) E).2 = 0))] := by
      simp only [q2g, q0y, if_neg hs, if_neg hg, hEE]
    have hEe := hE (n.s.length + n.e) (by rw [← hEE]; unfold fineE; rw [if_neg fun h => hg h.1])
    simp (maxSteps := 400000) only [↓preZ, postZ, coreZ, ↓preU, postU, ↓preA, postA, D_all, F_all, unR, outL, onePV, binS, ↓binS, q03, ↓q03, q01, ↓q01, boxR, q0b, newObj, q05, q00, q06, q09, q0a, St.freeze, q02, q07, q04, BEq.rfl, reduceIte, reduceCtorEq, Nat.reduceLT, Nat.reduceAdd, Nat.reduceSub, Nat.reduceMul, Nat.reduceBEq, Nat.reduceLeDiff, Int.reduceToNat, Int.reduceLE, hQ, q2d, ↓q6s, ↓q3n, ↓ctrUp, hs', hg', nodeZ, nodeW, q16, hEe, ← hpad, hr, makeR]
    repeat' (first | omega | exact hpf | exact hpt | exact (by decide) | refine ⟨?_, ?_⟩)
def q2h : Ctr := fun args objs K => match args with
  | [a0, .bool above] => ofE encN a0 (HK.mk : HK fun n => (NumR n) ∧ K (q2g n above) objs 0)
  | _ => False
theorem q8w : CtrOk Tryz.prog f_atom_Beside (q2h) := by
  intro args objs K h
  unfold q2h at h
  split at h
  · rename_i a0 above
    obtain ⟨n, rfl, h1, hk⟩ := h
    exact ⟨_, _, _, .pure _ rfl (qh2 n above h1), hk⟩
  · exact h.elim
end Lp

/-! LpE7 -/

namespace Lp
open Go Go.Proofs Go.RowKit
set_option maxHeartbeats 8000000
set_option maxRecDepth 100000
set_option linter.unusedSimpArgs false
theorem inAs : Inert encAs := by intro d n o x; cases d <;> rfl
theorem frzBA (l : List Atm) : frz 1 0 [⟨t_L_api_Atom, 1, [encAs l], true, 1⟩] (.optr 0 1 0 0) = .addr (encAs l) := by
  simp only [frz, Nat.not_lt_zero, if_false, frzI, List.getElem?_cons_zero, Nat.zero_le, decide_true, Bool.and_self, BEq.rfl, if_true]
  rw [inAs]
theorem qb4 (l : List Atm) : FnSpec Tryz.prog f_atom_candidates [encAs l] [] (.fn f_atom_candidates_1 [] [.addr (encAs l)]) [] := by
  refine k_atom_candidates.pureG (T := tabL Tryz.prog []) 0 hD (q0e q0d) hmix (by decide) fun Q hQ => ?_
  try simp only [F_all]
  simp (maxSteps := 400000) only [↓preZ, postZ, coreZ, ↓preU, postU, ↓preA, postA, D_all, F_all, unR, outL, onePV, binS, ↓binS, q03, ↓q03, q01, ↓q01, boxR, q0b, newObj, q05, q00, q06, q09, q0a, St.freeze, q02, q07, q04, BEq.rfl, reduceIte, reduceCtorEq, Nat.reduceLT, Nat.reduceAdd, Nat.reduceSub, Nat.reduceMul, Nat.reduceBEq, Nat.reduceLeDiff, Int.reduceToNat, Int.reduceLE, hQ, q4i]
  refine q0m _ (Weak.freeze 1 0 (Nat.zero_le _) _) ?_
  simp (maxSteps := 400000) only [↓preZ, postZ, coreZ, ↓preU, postU, ↓preA, postA, D_all, F_all, unR, outL, onePV, binS, ↓binS, q03, ↓q03, q01, ↓q01, boxR, q0b, newObj, q05, q00, q06, q09, q0a, St.freeze, q02, q07, q04, BEq.rfl, reduceIte, reduceCtorEq, Nat.reduceLT, Nat.reduceAdd, Nat.reduceSub, Nat.reduceMul, Nat.reduceBEq, Nat.reduceLeDiff, Int.reduceToNat, Int.reduceLE, hQ, frzBA]
theorem objB (O : List Obj) :
    (∀ x X, (O ++ x :: X)[O.length]? = some x) ∧ (∀ x y X, (O ++ x :: y :: X)[O.length + 1]? = some y) ∧ (∀ x y z X, (O ++ x :: y :: z :: X)[O.length + 2]? = some z) ∧
    (∀ x z X, (O ++ x :: X).set O.length z = O ++ z :: X) ∧ (∀ x y z X, (O ++ x :: y :: X).set (O.length + 1) z = O ++ x :: z :: X) ∧ (∀ x y z u X, (O ++ x :: y :: z :: X).set (O.length + 2) u = O ++ x :: y :: u :: X) := by
  refine ⟨fun x X => ?_, fun x y X => ?_, fun x y z X => ?_, fun x z X => ?_, fun x y z X => ?_, fun x y z u X => ?_⟩
  · rw [List.getElem?_append_right (Nat.le_refl _)]; simp
  · rw [List.getElem?_append_right (by omega)]; simp
  · rw [List.getElem?_append_right (by omega)]; simp
  · rw [List.set_append_right _ _ (Nat.le_refl _)]; simp
  · rw [List.set_append_right _ _ (by omega)]; simp
  · rw [List.set_append_right _ _ (by omega)]; simp
theorem atomZ : PV.ofV (.agg ⟨[.int .i64 0, .int .i64 0, .int .i64 0, .string ⟨⟨[]⟩⟩, .string ⟨⟨[]⟩⟩, .bool false, .int .i64 0]⟩) = encA ⟨0, ⟨0, 0, [], [], false, 0⟩⟩ := rfl
def outO (xs : List Nd) (ver : Nat) : Obj := ⟨t_api_Node, 6, xs.map encN, true, ver⟩
def cand1 (a : Atm) : List Nd := if a.c.kind = 3 then a.c :: ((if (q0y a.c true).2 then [(q0y a.c true).1] else []) ++ if (q0y a.c false).2 then [(q0y a.c false).1] else []) else []
def cand2 (a : Atm) : List Nd := if a.c.kind = 4 then [a.c, ⟨4, 0, [], a.c.s ++ [0], false, 0⟩] else []
theorem q65 : ∀ l, candN l = (l.map cand1).flatten
  | [] => rfl
  | a :: l => by simp only [candN, List.map_cons, List.flatten_cons, q65 l]; rfl
theorem q66 : ∀ l, candS l = (l.map cand2).flatten
  | [] => rfl
  | a :: l => by simp only [candS, List.map_cons, List.flatten_cons, q66 l]; rfl
theorem qjr {l : List Atm} {i : Nat} {a : Atm} (h : l[i]? = some a) : candN (l.take (i + 1)) = candN (l.take i) ++ cand1 a := by
  rw [q65, q65, List.take_add_one, h]; simp
theorem qjs {l : List Atm} {i : Nat} {a : Atm} (h : l[i]? = some a) : candS (l.take (i + 1)) = candS (l.take i) ++ cand2 a := by
  rw [q66, q66, List.take_add_one, h]; simp
theorem qb5 : ∀ l : List Atm, (candN l).length ≤ 3 * l.length
  | [] => by simp [candN]
  | a :: l => by
    have := qb5 l
    simp only [candN, List.length_append, List.length_cons]
    split
    · simp only [List.length_cons, List.length_append]
      split <;> split <;> simp only [List.length_cons, List.length_nil] <;> omega
    · simp only [List.length_nil]; omega
theorem qfi : ∀ l : List Atm, (candS l).length ≤ 2 * l.length
  | [] => by simp [candS]
  | a :: l => by
    have := qfi l
    simp only [candS, List.length_append, List.length_cons]
    split
    · simp only [List.length_cons, List.length_nil]; omega
    · simp only [List.length_nil]; omega
def cand0 : List Nd := [⟨0, 0, [], [], false, 0⟩, ⟨1, 0, [], [], false, 0⟩, ⟨2, 0, [], [], false, 0⟩, ⟨3, 0, [], [], false, 0⟩]
def bes (a : Atm) (b : Bool) : List Nd := if (q0y a.c b).2 then [(q0y a.c b).1] else []
theorem qfj {a : Atm} (h : a.c.kind = 3) : cand1 a = [a.c] ++ bes a true ++ bes a false := by
  rw [cand1, if_pos h]; simp [bes]
theorem mapA1 (xs : List Nd) (n : Nd) : List.map encN xs ++ [encN n] = List.map encN (xs ++ [n]) := by simp
theorem mapA2 (xs : List Nd) (n m : Nd) : List.map encN xs ++ [encN n, encN m] = List.map encN (xs ++ [n, m]) := by simp
theorem etaN (n : Nd) : Nd.mk n.kind n.many n.name n.s n.neg n.e = n := rfl
theorem etaO (xs : List Nd) (ver : Nat) : Obj.mk t_api_Node 6 (List.map encN xs) true ver = outO xs ver := rfl
theorem outR : (∀ xs v, (outO xs v).live = true) ∧ (∀ xs v, (outO xs v).ver = v) ∧ (∀ xs v, (outO xs v).sz = 6) ∧ (∀ xs v, (outO xs v).ty = t_api_Node) ∧ (∀ xs v, (outO xs v).xs = List.map encN xs) :=
  ⟨fun _ _ => rfl, fun _ _ => rfl, fun _ _ => rfl, fun _ _ => rfl, fun _ _ => rfl⟩
theorem qvt {O : List Obj} (h : q2s O) (xs : List Nd) (ver : Nat) : q2s (O ++ [outO xs ver]) := by
  intro o ho x hx c hc
  rw [List.length_append]
  rcases List.mem_append.1 ho with ho | ho
  · have := h o ho x hx c hc
    exact qcq (Nat.le_add_right _ _) this
  · rw [List.mem_singleton] at ho; subst ho
    obtain ⟨n, _, rfl⟩ := List.mem_map.1 hx
    simp only [encN, PV.cells, List.mem_cons, List.not_mem_nil, or_false] at hc
    rcases hc with rfl | rfl | rfl | rfl | rfl | rfl <;> rfl
theorem frzK {O : List Obj} (h : q2s O) :
    (∀ d xs ver X, List.map (frzO d (O.length + 1) (O ++ outO xs ver :: X)) (List.take (O.length + 1) (O ++ outO xs ver :: X)) = O ++ [outO xs ver]) ∧
    (∀ d X ver, frz d (O.length + 1) X (.osl O.length ver) = .osl O.length ver) ∧
    (∀ x (a : Atm), frz 1 (O.length + 1) (O ++ [x, ⟨t_api_Atom, 7, [encA a], true, 1⟩]) (.optr (O.length + 1) 1 0 0) = .addr (encA a)) := by
  refine ⟨fun d xs ver X => ?_, fun d X ver => ?_, fun x a => ?_⟩
  · have e : List.take (O.length + 1) (O ++ outO xs ver :: X) = O ++ [outO xs ver] := by
      rw [List.take_append, List.take_of_length_le (by omega)]; simp
    rw [e]
    have := qcr (d := d) (objs' := O ++ outO xs ver :: X) (qvt h xs ver)
    rwa [List.length_append] at this
  · simp [frz]
  · have : (O ++ [x, ⟨t_api_Atom, 7, [encA a], true, 1⟩])[O.length + 1]? = some ⟨t_api_Atom, 7, [encA a], true, 1⟩ := by
      rw [List.getElem?_append_right (by omega)]; simp
    simp only [frz, Nat.lt_irrefl, if_false, frzI, this, Nat.le_refl, decide_true, Bool.and_self, BEq.rfl, if_true]
    rfl
theorem frzO1 {O : List Obj} (h : q2s O) :
    (∀ d X, List.map (frzO d O.length (O ++ X)) (List.take O.length (O ++ X)) = O) ∧
    (∀ xs v, frz 1 O.length (O ++ [outO xs v]) (.osl O.length v) = encV xs) := by
  refine ⟨fun d X => ?_, fun xs v => ?_⟩
  · rw [List.take_append_of_le_length (Nat.le_refl _), List.take_length]
    exact qcr h
  · have : (O ++ [outO xs v])[O.length]? = some (outO xs v) := by
      rw [List.getElem?_append_right (Nat.le_refl _)]; simp
    simp only [frz, Nat.lt_irrefl, if_false, frzI, this, outR, Nat.le_refl, decide_true, Bool.and_self, BEq.rfl, if_true]
    rw [qjh encN fun n => rfl]
    rfl
theorem frzN1 {O : List Obj} (h : q2s O) :
    (∀ d X, List.map (frzO d O.length (O ++ X)) (List.take O.length (O ++ X)) = O) ∧
    (∀ n : Nd, frz 1 O.length (O ++ [⟨t_api_Node, 6, [encN n], true, 1⟩]) (.optr O.length 1 0 0) = .addr (encN n)) := by
  refine ⟨(frzO1 h).1, fun n => ?_⟩
  have : (O ++ [⟨t_api_Node, 6, [encN n], true, 1⟩])[O.length]? = some ⟨t_api_Node, 6, [encN n], true, 1⟩ := by
    rw [List.getElem?_append_right (Nat.le_refl _)]; simp
  simp only [frz, Nat.lt_irrefl, if_false, frzI, this, Nat.le_refl, decide_true, Bool.and_self, BEq.rfl, if_true]
  rfl
theorem qjt (l : List Atm) (hl : l.length ≤ 1000000) (hn : ∀ a ∈ l, a.c.kind = 3 → NumR a.c) (hs : ∀ a ∈ l, a.c.s.length ≤ 1000000) : Gives Tryz.prog f_atom_candidates_1 [.addr (encAs l)] ((candA l).map fun c => [encN c]) := by
  refine k_atom_candidates_1.gives (fnT := tabF [(f_atom_Beside, q2h)]) hD (q0c q8w q0d) hmix ?_
  intro I J objs y hI hIl hJl
  have hO := (hIl 0 objs hI).2
  simp (maxSteps := 400000) only [↓preZ, postZ, coreZ, ↓preU, postU, ↓preA, postA, D_all, F_all, unR, outL, onePV, binS, ↓binS, q03, ↓q03, q01, ↓q01, boxR, q0b, newObj, q05, q00, q06, q09, q0a, St.freeze, q02, q07, q04, BEq.rfl, reduceIte, reduceCtorEq, Nat.reduceLT, Nat.reduceAdd, Nat.reduceSub, Nat.reduceMul, Nat.reduceBEq, Nat.reduceLeDiff, Int.reduceToNat, Int.reduceLE, q3h, nodeZ, nodeW]
  refine q0q (fun m S => ∃ (i ver : Nat), i + m = l.length ∧ S = ⟨tmA 90 [(0, .yld y), (1, .addr (encAs l)), (3, .osl objs.length ver), (19, encAs l), (20, .int .i64 l.length), (21, .int .i64 i)], objs ++ [outO (cand0 ++ candN (l.take i)) ver]⟩) l.length ⟨0, 1, by omega, ?_⟩ ?_
  · simp only [normR, keepR, Nat.reduceAdd, lkR, Nat.reduceBEq, F_all, List.map_nil]
    rfl
  rintro m S ⟨i, ver, him, rfl⟩
  rcases Nat.lt_or_ge i l.length with h | h
  · have hlt : ((i : Int) < (l.length : Int)) = True := eq_true (by omega)
    have zi : (0 ≤ (i : Int)) = True := eq_true (by omega)
    have hgi := List.getElem?_eq_getElem h
    generalize l[i] = a at hgi
    have oB := objB objs
    have oF := frzK hO
    have hxl : (cand0 ++ candN (l.take i)).length ≤ 4 + 3 * i := by
      have h1 := qb5 (l.take i)
      have h2 : (l.take i).length ≤ i := List.length_take_le i l
      have h3 : cand0.length = 4 := rfl
      rw [List.length_append]; omega
    have htk := qjr hgi
    have c0 : cand0 ++ candN (l.take (i + 1)) = (cand0 ++ candN (l.take i)) ++ cand1 a := by rw [htk, List.append_assoc]
    generalize hX : cand0 ++ candN (l.take i) = X at hxl c0
    by_cases hk : a.c.kind = 3
    rotate_left 1
    · have k3 : (a.c.kind = 3) = False := eq_false hk
      simp (maxSteps := 400000) only [↓preZ, postZ, coreZ, ↓preU, postU, ↓preA, postA, D_all, F_all, unR, outL, onePV, binS, ↓binS, q03, ↓q03, q01, ↓q01, boxR, q0b, newObj, q05, q00, q06, q09, q0a, St.freeze, q02, q07, q04, BEq.rfl, reduceIte, reduceCtorEq, Nat.reduceLT, Nat.reduceAdd, Nat.reduceSub, Nat.reduceMul, Nat.reduceBEq, Nat.reduceLeDiff, Int.reduceToNat, Int.reduceLE, hlt, zi, hgi, k3, oB, atomZ, etaN, List.append_assoc, List.cons_append, List.nil_append, List.length_append, List.length_cons, List.length_nil]
      refine q0m _ (Weak.freeze 1 (objs.length + 1) (Nat.le_succ _) _) ?_
      simp (maxSteps := 400000) only [↓preZ, postZ, coreZ, ↓preU, postU, ↓preA, postA, D_all, F_all, unR, outL, onePV, binS, ↓binS, q03, ↓q03, q01, ↓q01, boxR, q0b, newObj, q05, q00, q06, q09, q0a, St.freeze, q02, q07, q04, BEq.rfl, reduceIte, reduceCtorEq, Nat.reduceLT, Nat.reduceAdd, Nat.reduceSub, Nat.reduceMul, Nat.reduceBEq, Nat.reduceLeDiff, Int.reduceToNat, Int.reduceLE, oF]
      have e1 : cand1 a = [] := if_neg hk
      exact ⟨⟨by omega, by omega⟩, m - 1, by omega, i + 1, ver, by omega, by rw [c0, e1, List.append_nil]; rfl⟩
    · have k3 : (a.c.kind = 3) = True := eq_true hk
      have hnum := hn a (List.mem_of_getElem? hgi) hk
      simp (maxSteps := 400000) only [↓preZ, postZ, coreZ, ↓preU, postU, ↓preA, postA, D_all, F_all, unR, outL, onePV, binS, ↓binS, q03, ↓q03, q01, ↓q01, boxR, q0b, newObj, q05, q00, q06, q09, q0a, St.freeze, q02, q07, q04, BEq.rfl, reduceIte, reduceCtorEq, Nat.reduceLT, Nat.reduceAdd, Nat.reduceSub, Nat.reduceMul, Nat.reduceBEq, Nat.reduceLeDiff, Int.reduceToNat, Int.reduceLE, hlt, zi, hgi, k3, oB, atomZ, nodeZ, nodeW, etaN, outR, List.append_assoc, List.cons_append, List.nil_append, List.length_append, List.length_cons, List.length_nil, List.length_map, mapA1, etaO]
      refine ⟨by omega, by omega, ?_⟩
      refine q0m _ (Weak.freeze 1 (objs.length + 1) (Nat.le_succ _) _) ?_
      simp (maxSteps := 400000) only [↓preZ, postZ, coreZ, ↓preU, postU, ↓preA, postA, D_all, F_all, unR, outL, onePV, binS, ↓binS, q03, ↓q03, q01, ↓q01, boxR, q0b, newObj, q05, q00, q06, q09, q0a, St.freeze, q02, q07, q04, BEq.rfl, reduceIte, reduceCtorEq, Nat.reduceLT, Nat.reduceAdd, Nat.reduceSub, Nat.reduceMul, Nat.reduceBEq, Nat.reduceLeDiff, Int.reduceToNat, Int.reduceLE, oF]
      have l1 : (bes a true).length ≤ 1 := by unfold bes; split <;> simp
      have l2 : (bes a false).length ≤ 1 := by unfold bes; split <;> simp
      have st : ∀ (j : Int) (xs : List Nd) (v : Nat), St := fun j xs v => ⟨tmA 90 [(0, .yld y), (1, .addr (encAs l)), (3, .osl objs.length v), (5, .addr (encA a)), (19, encAs l), (20, .int .i64 l.length), (21, .int .i64 i), (34, .sl 1 [.bool true, .bool false] none), (35, .int .i64 ((2 : Nat) : Int)), (36, .int .i64 j)], objs ++ [outO xs v]⟩
      refine q0q (fun m' S => ∃ (v : Nat) (j : Int) (xs : List Nd), (j = 0 ∧ m' = 2 ∧ xs = X ++ [a.c] ∨ j = 1 ∧ m' = 1 ∧ xs = X ++ [a.c] ++ bes a true ∨ j = 2 ∧ m' = 0 ∧ xs = X ++ [a.c] ++ bes a true ++ bes a false) ∧ S = ⟨tmA 90 [(0, .yld y), (1, .addr (encAs l)), (3, .osl objs.length v), (5, .addr (encA a)), (19, encAs l), (20, .int .i64 l.length), (21, .int .i64 i), (34, .sl 1 [.bool true, .bool false] none), (35, .int .i64 ((2 : Nat) : Int)), (36, .int .i64 j)], objs ++ [outO xs v]⟩) 2 ⟨ver + 1, 0, _, .inl ⟨rfl, rfl, rfl⟩, ?_⟩ ?_
      · simp only [normR, keepR, Nat.reduceAdd, lkR, Nat.reduceBEq, F_all, List.map_nil]
      rintro m' S ⟨v, j, xs, hj, rfl⟩
      have n2 : ((2 : Nat) : Int) = 2 := rfl
      rcases hj with ⟨rfl, rfl, hxs⟩ | ⟨rfl, rfl, hxs⟩ | ⟨rfl, rfl, hxs⟩
      · have hxl2 : xs.length ≤ 8 + 3 * i := by rw [hxs]; simp only [List.length_append, List.length_cons, List.length_nil]; omega
        cases hb : (q0y a.c true).2
        · simp (maxSteps := 400000) only [↓preZ, postZ, coreZ, ↓preU, postU, ↓preA, postA, D_all, F_all, unR, outL, onePV, binS, ↓binS, q03, ↓q03, q01, ↓q01, boxR, q0b, newObj, q05, q00, q06, q09, q0a, St.freeze, q02, q07, q04, BEq.rfl, reduceIte, reduceCtorEq, Nat.reduceLT, Nat.reduceAdd, Nat.reduceSub, Nat.reduceMul, Nat.reduceBEq, Nat.reduceLeDiff, Int.reduceToNat, Int.reduceLE, n2, Int.reduceLT, oB, nodeZ, nodeW, etaN, outR, ↓q2h, q2g, hb, q16, List.append_assoc, List.cons_append, List.nil_append, List.length_append, List.length_cons, List.length_nil, List.length_map, mapA1, etaO]
          refine ⟨hnum, ?_⟩
          refine q0m _ (Weak.freeze 1 (objs.length + 1) (Nat.le_succ _) _) ?_
          simp (maxSteps := 400000) only [↓preZ, postZ, coreZ, ↓preU, postU, ↓preA, postA, D_all, F_all, unR, outL, onePV, binS, ↓binS, q03, ↓q03, q01, ↓q01, boxR, q0b, newObj, q05, q00, q06, q09, q0a, St.freeze, q02, q07, q04, BEq.rfl, reduceIte, reduceCtorEq, Nat.reduceLT, Nat.reduceAdd, Nat.reduceSub, Nat.reduceMul, Nat.reduceBEq, Nat.reduceLeDiff, Int.reduceToNat, Int.reduceLE, oF]
          have hbs : bes a true = [] := by simp [bes, hb]
          exact ⟨⟨by omega, by omega⟩, 1, by omega, v, 1, xs, .inr (.inl ⟨rfl, rfl, by rw [hxs, hbs, List.append_nil]⟩), rfl⟩
        · simp (maxSteps := 400000) only [↓preZ, postZ, coreZ, ↓preU, postU, ↓preA, postA, D_all, F_all, unR, outL, onePV, binS, ↓binS, q03, ↓q03, q01, ↓q01, boxR, q0b, newObj, q05, q00, q06, q09, q0a, St.freeze, q02, q07, q04, BEq.rfl, reduceIte, reduceCtorEq, Nat.reduceLT, Nat.reduceAdd, Nat.reduceSub, Nat.reduceMul, Nat.reduceBEq, Nat.reduceLeDiff, Int.reduceToNat, Int.reduceLE, n2, Int.reduceLT, oB, nodeZ, nodeW, etaN, outR, ↓q2h, q2g, hb, q16, List.append_assoc, List.cons_append, List.nil_append, List.length_append, List.length_cons, List.length_nil, List.length_map, mapA1, etaO]
          refine ⟨hnum, by omega, by omega, ?_⟩
          refine q0m _ (Weak.freeze 1 (objs.length + 1) (Nat.le_succ _) _) ?_
          simp (maxSteps := 400000) only [↓preZ, postZ, coreZ, ↓preU, postU, ↓preA, postA, D_all, F_all, unR, outL, onePV, binS, ↓binS, q03, ↓q03, q01, ↓q01, boxR, q0b, newObj, q05, q00, q06, q09, q0a, St.freeze, q02, q07, q04, BEq.rfl, reduceIte, reduceCtorEq, Nat.reduceLT, Nat.reduceAdd, Nat.reduceSub, Nat.reduceMul, Nat.reduceBEq, Nat.reduceLeDiff, Int.reduceToNat, Int.reduceLE, oF]
          have hbs : bes a true = [(q0y a.c true).1] := by simp [bes, hb]
          exact ⟨⟨by omega, by omega⟩, 1, by omega, v + 1, 1, xs ++ [(q0y a.c true).1], .inr (.inl ⟨rfl, rfl, by rw [hxs, hbs]⟩), rfl⟩
      · have hxl2 : xs.length ≤ 8 + 3 * i := by rw [hxs]; simp only [List.length_append, List.length_cons, List.length_nil]; omega
        cases hb : (q0y a.c false).2
        · simp (maxSteps := 400000) only [↓preZ, postZ, coreZ, ↓preU, postU, ↓preA, postA, D_all, F_all, unR, outL, onePV, binS, ↓binS, q03, ↓q03, q01, ↓q01, boxR, q0b, newObj, q05, q00, q06, q09, q0a, St.freeze, q02, q07, q04, BEq.rfl, reduceIte, reduceCtorEq, Nat.reduceLT, Nat.reduceAdd, Nat.reduceSub, Nat.reduceMul, Nat.reduceBEq, Nat.reduceLeDiff, Int.reduceToNat, Int.reduceLE, n2, Int.reduceLT, oB, nodeZ, nodeW, etaN, outR, ↓q2h, q2g, hb, q16, List.append_assoc, List.cons_append, List.nil_append, List.length_append, List.length_cons, List.length_nil, List.length_map, mapA1, etaO]
          refine ⟨hnum, ?_⟩
          refine q0m _ (Weak.freeze 1 (objs.length + 1) (Nat.le_succ _) _) ?_
          simp (maxSteps := 400000) only [↓preZ, postZ, coreZ, ↓preU, postU, ↓preA, postA, D_all, F_all, unR, outL, onePV, binS, ↓binS, q03, ↓q03, q01, ↓q01, boxR, q0b, newObj, q05, q00, q06, q09, q0a, St.freeze, q02, q07, q04, BEq.rfl, reduceIte, reduceCtorEq, Nat.reduceLT, Nat.reduceAdd, Nat.reduceSub, Nat.reduceMul, Nat.reduceBEq, Nat.reduceLeDiff, Int.reduceToNat, Int.reduceLE, oF]
          have hbs : bes a false = [] := by simp [bes, hb]
          exact ⟨⟨by omega, by omega⟩, 0, by omega, v, 2, xs, .inr (.inr ⟨rfl, rfl, by rw [hxs, hbs, List.append_nil]⟩), rfl⟩
        · simp (maxSteps := 400000) only [↓preZ, postZ, coreZ, ↓preU, postU, ↓preA, postA, D_all, F_all, unR, outL, onePV, binS, ↓binS, q03, ↓q03, q01, ↓q01, boxR, q0b, newObj, q05, q00, q06, q09, q0a, St.freeze, q02, q07, q04, BEq.rfl, reduceIte, reduceCtorEq, Nat.reduceLT, Nat.reduceAdd, Nat.reduceSub, Nat.reduceMul, Nat.reduceBEq, Nat.reduceLeDiff, Int.reduceToNat, Int.reduceLE, n2, Int.reduceLT, oB, nodeZ, nodeW, etaN, outR, ↓q2h, q2g, hb, q16, List.append_assoc, List.cons_append, List.nil_append, List.length_append, List.length_cons, List.length_nil, List.length_map, mapA1, etaO]
          refine ⟨hnum, by omega, by omega, ?_⟩
          refine q0m _ (Weak.freeze 1 (objs.length + 1) (Nat.le_succ _) _) ?_
          simp (maxSteps := 400000) only [↓preZ, postZ, coreZ, ↓preU, postU, ↓preA, postA, D_all, F_all, unR, outL, onePV, binS, ↓binS, q03, ↓q03, q01, ↓q01, boxR, q0b, newObj, q05, q00, q06, q09, q0a, St.freeze, q02, q07, q04, BEq.rfl, reduceIte, reduceCtorEq, Nat.reduceLT, Nat.reduceAdd, Nat.reduceSub, Nat.reduceMul, Nat.reduceBEq, Nat.reduceLeDiff, Int.reduceToNat, Int.reduceLE, oF]
          have hbs : bes a false = [(q0y a.c false).1] := by simp [bes, hb]
          exact ⟨⟨by omega, by omega⟩, 0, by omega, v + 1, 2, xs ++ [(q0y a.c false).1], .inr (.inr ⟨rfl, rfl, by rw [hxs, hbs]⟩), rfl⟩
      · simp (maxSteps := 400000) only [↓preZ, postZ, coreZ, ↓preU, postU, ↓preA, postA, D_all, F_all, unR, outL, onePV, binS, ↓binS, q03, ↓q03, q01, ↓q01, boxR, q0b, newObj, q05, q00, q06, q09, q0a, St.freeze, q02, q07, q04, BEq.rfl, reduceIte, reduceCtorEq, Nat.reduceLT, Nat.reduceAdd, Nat.reduceSub, Nat.reduceMul, Nat.reduceBEq, Nat.reduceLeDiff, Int.reduceToNat, Int.reduceLE, n2, Int.reduceLT]
        refine q0m _ (Weak.freeze 1 (objs.length + 1) (Nat.le_succ _) _) ?_
        simp (maxSteps := 400000) only [↓preZ, postZ, coreZ, ↓preU, postU, ↓preA, postA, D_all, F_all, unR, outL, onePV, binS, ↓binS, q03, ↓q03, q01, ↓q01, boxR, q0b, newObj, q05, q00, q06, q09, q0a, St.freeze, q02, q07, q04, BEq.rfl, reduceIte, reduceCtorEq, Nat.reduceLT, Nat.reduceAdd, Nat.reduceSub, Nat.reduceMul, Nat.reduceBEq, Nat.reduceLeDiff, Int.reduceToNat, Int.reduceLE, oF]
        exact ⟨⟨by omega, by omega⟩, m - 1, by omega, i + 1, v, by omega, by rw [c0, qfj hk, hxs, List.append_assoc, List.append_assoc, List.append_assoc]; rfl⟩
  · have hlt : ((i : Int) < (l.length : Int)) = False := eq_false (by omega)
    have oB := objB objs
    have oF := frzK hO
    have hxl : (cand0 ++ candN (l.take i)).length ≤ 4 + 3 * i := by
      have h1 := qb5 (l.take i)
      have h2 : (l.take i).length ≤ i := List.length_take_le i l
      have h3 : cand0.length = 4 := rfl
      rw [List.length_append]; omega
    have hi : i = l.length := by omega
    rw [hi, List.take_length]
    rw [hi, List.take_length] at hxl
    generalize hX : cand0 ++ candN l = X at hxl
    have hlt2 : ((l.length : Int) < (l.length : Int)) = False := eq_false (by omega)
    simp (maxSteps := 400000) only [↓preZ, postZ, coreZ, ↓preU, postU, ↓preA, postA, D_all, F_all, unR, outL, onePV, binS, ↓binS, q03, ↓q03, q01, ↓q01, boxR, q0b, newObj, q05, q00, q06, q09, q0a, St.freeze, q02, q07, q04, BEq.rfl, reduceIte, reduceCtorEq, Nat.reduceLT, Nat.reduceAdd, Nat.reduceSub, Nat.reduceMul, Nat.reduceBEq, Nat.reduceLeDiff, Int.reduceToNat, Int.reduceLE, hlt2, oB, nodeZ, nodeW, etaN, outR, List.append_assoc, List.cons_append, List.nil_append, List.length_append, List.length_cons, List.length_nil, List.length_map, mapA1, etaO]
    refine ⟨by omega, by omega, ?_⟩
    refine q0q (fun m S => ∃ (i ver : Nat), i + m = l.length ∧ S = ⟨tmA 90 [(0, .yld y), (3, .osl objs.length ver), (58, encAs l), (59, .int .i64 l.length), (60, .int .i64 i)], objs ++ [outO (X ++ ⟨4, 0, [], [], false, 0⟩ :: candS (l.take i)) ver]⟩) l.length ⟨0, ver + 1, by omega, ?_⟩ ?_
    · simp only [normR, keepR, Nat.reduceAdd, lkR, Nat.reduceBEq, F_all, List.map_nil]
      rfl
    rintro m S ⟨i, ver, him, rfl⟩
    have hxl2 : (X ++ ⟨4, 0, [], [], false, 0⟩ :: candS (l.take i)).length ≤ 8 + 3 * l.length + 2 * i := by
      have h1 := qfi (l.take i)
      have h2 : (l.take i).length ≤ i := List.length_take_le i l
      rw [List.length_append, List.length_cons]; omega
    rcases Nat.lt_or_ge i l.length with h | h
    · have hlt : ((i : Int) < (l.length : Int)) = True := eq_true (by omega)
      have zi : (0 ≤ (i : Int)) = True := eq_true (by omega)
      have hgi := List.getElem?_eq_getElem h
      generalize l[i] = a at hgi
      have has := hs a (List.mem_of_getElem? hgi)
      have c0 : X ++ ⟨4, 0, [], [], false, 0⟩ :: candS (l.take (i + 1)) = (X ++ ⟨4, 0, [], [], false, 0⟩ :: candS (l.take i)) ++ cand2 a := by rw [qjs hgi]; simp
      generalize hY : X ++ ⟨4, 0, [], [], false, 0⟩ :: candS (l.take i) = Y at hxl2 c0
      by_cases hk : a.c.kind = 4
      rotate_left 1
      · have k4 : (a.c.kind = 4) = False := eq_false hk
        simp (maxSteps := 400000) only [↓preZ, postZ, coreZ, ↓preU, postU, ↓preA, postA, D_all, F_all, unR, outL, onePV, binS, ↓binS, q03, ↓q03, q01, ↓q01, boxR, q0b, newObj, q05, q00, q06, q09, q0a, St.freeze, q02, q07, q04, BEq.rfl, reduceIte, reduceCtorEq, Nat.reduceLT, Nat.reduceAdd, Nat.reduceSub, Nat.reduceMul, Nat.reduceBEq, Nat.reduceLeDiff, Int.reduceToNat, Int.reduceLE, hlt, zi, hgi, k4, oB, atomZ, nodeZ, nodeW, etaN, outR, List.append_assoc, List.cons_append, List.nil_append, List.length_append, List.length_cons, List.length_nil, List.length_map, mapA1, mapA2, etaO]
        refine q0m _ (Weak.freeze 1 (objs.length + 1) (Nat.le_succ _) _) ?_
        simp (maxSteps := 400000) only [↓preZ, postZ, coreZ, ↓preU, postU, ↓preA, postA, D_all, F_all, unR, outL, onePV, binS, ↓binS, q03, ↓q03, q01, ↓q01, boxR, q0b, newObj, q05, q00, q06, q09, q0a, St.freeze, q02, q07, q04, BEq.rfl, reduceIte, reduceCtorEq, Nat.reduceLT, Nat.reduceAdd, Nat.reduceSub, Nat.reduceMul, Nat.reduceBEq, Nat.reduceLeDiff, Int.reduceToNat, Int.reduceLE, oF]
        have e1 : cand2 a = [] := if_neg hk
        exact ⟨⟨by omega, by omega⟩, m - 1, by omega, i + 1, ver, by omega, by rw [c0, e1, List.append_nil]; rfl⟩
      · have k4 : (a.c.kind = 4) = True := eq_true hk
        simp (maxSteps := 400000) only [↓preZ, postZ, coreZ, ↓preU, postU, ↓preA, postA, D_all, F_all, unR, outL, onePV, binS, ↓binS, q03, ↓q03, q01, ↓q01, boxR, q0b, newObj, q05, q00, q06, q09, q0a, St.freeze, q02, q07, q04, BEq.rfl, reduceIte, reduceCtorEq, Nat.reduceLT, Nat.reduceAdd, Nat.reduceSub, Nat.reduceMul, Nat.reduceBEq, Nat.reduceLeDiff, Int.reduceToNat, Int.reduceLE, hlt, zi, hgi, k4, oB, atomZ, nodeZ, nodeW, etaN, outR, List.append_assoc, List.cons_append, List.nil_append, List.length_append, List.length_cons, List.length_nil, List.length_map, mapA1, mapA2, etaO]
        refine ⟨by omega, fun y hy => by simp only [List.mem_cons, List.not_mem_nil, or_false] at hy; rcases hy with rfl | rfl <;> exact ⟨rfl, rfl⟩, by omega, by omega, ?_⟩
        refine q0m _ (Weak.freeze 1 (objs.length + 1) (Nat.le_succ _) _) ?_
        simp (maxSteps := 400000) only [↓preZ, postZ, coreZ, ↓preU, postU, ↓preA, postA, D_all, F_all, unR, outL, onePV, binS, ↓binS, q03, ↓q03, q01, ↓q01, boxR, q0b, newObj, q05, q00, q06, q09, q0a, St.freeze, q02, q07, q04, BEq.rfl, reduceIte, reduceCtorEq, Nat.reduceLT, Nat.reduceAdd, Nat.reduceSub, Nat.reduceMul, Nat.reduceBEq, Nat.reduceLeDiff, Int.reduceToNat, Int.reduceLE, oF]
        have e1 : cand2 a = [a.c, ⟨4, 0, [], a.c.s ++ [0], false, 0⟩] := if_pos hk
        exact ⟨⟨by omega, by omega⟩, m - 1, by omega, i + 1, ver + 1, by omega, by rw [c0, e1]; rfl⟩
    have hi : i = l.length := by omega
    have hlt2 : ((l.length : Int) < (l.length : Int)) = False := eq_false (by omega)
    rw [hi, List.take_length]
    rw [hi, List.take_length] at hxl2
    have hC : X ++ ⟨4, 0, [], [], false, 0⟩ :: candS l = candA l := by rw [← hX]; rfl
    rw [hC]
    rw [hC] at hxl2
    generalize candA l = C at hxl2
    simp (maxSteps := 400000) only [↓preZ, postZ, coreZ, ↓preU, postU, ↓preA, postA, D_all, F_all, unR, outL, onePV, binS, ↓binS, q03, ↓q03, q01, ↓q01, boxR, q0b, newObj, q05, q00, q06, q09, q0a, St.freeze, q02, q07, q04, BEq.rfl, reduceIte, reduceCtorEq, Nat.reduceLT, Nat.reduceAdd, Nat.reduceSub, Nat.reduceMul, Nat.reduceBEq, Nat.reduceLeDiff, Int.reduceToNat, Int.reduceLE, hlt2]
    refine q0m _ (Weak.freeze 1 objs.length (Nat.le_refl _) _) ?_
    have o1 := frzO1 hO
    simp (maxSteps := 400000) only [↓preZ, postZ, coreZ, ↓preU, postU, ↓preA, postA, D_all, F_all, unR, outL, onePV, binS, ↓binS, q03, ↓q03, q01, ↓q01, boxR, q0b, newObj, q05, q00, q06, q09, q0a, St.freeze, q02, q07, q04, BEq.rfl, reduceIte, reduceCtorEq, Nat.reduceLT, Nat.reduceAdd, Nat.reduceSub, Nat.reduceMul, Nat.reduceBEq, Nat.reduceLeDiff, Int.reduceToNat, Int.reduceLE, o1]
    refine q0q (fun m S => ∃ (i : Nat) (O : List Obj), i + m = C.length ∧ I i O ∧ S = ⟨tmA 90 [(0, .yld y), (79, encV C), (80, .int .i64 C.length), (81, .int .i64 i)], O⟩) C.length ⟨0, objs, by omega, hI, ?_⟩ ?_
    · simp only [normR, keepR, Nat.reduceAdd, lkR, Nat.reduceBEq, F_all, List.map_nil]
      rfl
    rintro m S ⟨i, O, him, hIi, rfl⟩
    have hOl := (hIl i O hIi).1
    have hOO := (hIl i O hIi).2
    rcases Nat.lt_or_ge i C.length with h | h
    · have hlt : ((i : Int) < (C.length : Int)) = True := eq_true (by omega)
      have zi : (0 ≤ (i : Int)) = True := eq_true (by omega)
      have hgi := List.getElem?_eq_getElem h
      generalize C[i] = c at hgi
      have oB := objB O
      simp (maxSteps := 400000) only [↓preZ, postZ, coreZ, ↓preU, postU, ↓preA, postA, D_all, F_all, unR, outL, onePV, binS, ↓binS, q03, ↓q03, q01, ↓q01, boxR, q0b, newObj, q05, q00, q06, q09, q0a, St.freeze, q02, q07, q04, BEq.rfl, reduceIte, reduceCtorEq, Nat.reduceLT, Nat.reduceAdd, Nat.reduceSub, Nat.reduceMul, Nat.reduceBEq, Nat.reduceLeDiff, Int.reduceToNat, Int.reduceLE, hlt, zi, hgi, oB, nodeZ, nodeW, etaN]
      refine q0m _ (Weak.freeze 1 O.length hOl _) ?_
      have o2 := frzN1 hOO
      simp (maxSteps := 400000) only [↓preZ, postZ, coreZ, ↓preU, postU, ↓preA, postA, D_all, F_all, unR, outL, onePV, binS, ↓binS, q03, ↓q03, q01, ↓q01, boxR, q0b, newObj, q05, q00, q06, q09, q0a, St.freeze, q02, q07, q04, BEq.rfl, reduceIte, reduceCtorEq, Nat.reduceLT, Nat.reduceAdd, Nat.reduceSub, Nat.reduceMul, Nat.reduceBEq, Nat.reduceLeDiff, Int.reduceToNat, Int.reduceLE, o2, Yof]
      refine ⟨rfl, i, hIi, by rw [hgi]; rfl, fun O' hI' => ⟨⟨by omega, by omega⟩, m - 1, by omega, i + 1, O', by omega, hI', rfl⟩, fun O' hJ' => ⟨.inr rfl, .inr ⟨i, h, hJ'⟩⟩⟩
    · have hlt : ((i : Int) < (C.length : Int)) = False := eq_false (by omega)
      simp (maxSteps := 400000) only [↓preZ, postZ, coreZ, ↓preU, postU, ↓preA, postA, D_all, F_all, unR, outL, onePV, binS, ↓binS, q03, ↓q03, q01, ↓q01, boxR, q0b, newObj, q05, q00, q06, q09, q0a, St.freeze, q02, q07, q04, BEq.rfl, reduceIte, reduceCtorEq, Nat.reduceLT, Nat.reduceAdd, Nat.reduceSub, Nat.reduceMul, Nat.reduceBEq, Nat.reduceLeDiff, Int.reduceToNat, Int.reduceLE, hlt]
      have hi : i = C.length := by omega
      subst hi
      exact ⟨.inl rfl, .inl hIi⟩
end Lp

/-! LpE8 -/

namespace Lp
open Go Go.Proofs Go.RowKit
set_option maxHeartbeats 8000000
set_option maxRecDepth 100000
set_option linter.unusedSimpArgs false
def q9h : Ctr := fun args objs K => match args with
  | [a0] => ofE encAs a0 (HK.mk : HK fun l => K (.fn f_atom_candidates_1 [] [.addr (encAs l)]) objs 0)
  | _ => False
theorem qh3 : CtrOk Tryz.prog f_atom_candidates (q9h) := by
  intro args objs K h
  unfold q9h at h
  split at h
  · rename_i a0
    obtain ⟨l, rfl, hk⟩ := h
    exact ⟨_, _, _, .pure _ rfl (qb4 l), hk⟩
  · exact h.elim
def qb6 : Ctr := fun args objs K => match args with
  | [.int .i64 mask, a1, a2] => ofE encAs a1 (HK.mk : HK fun l => ofE encN a2 (HK.mk : HK fun n => (0 ≤ mask ∧ mask ≤ 31) ∧ (l.length ≤ 1000000) ∧ (∀ a ∈ l, CmpOk a.c) ∧ (NdSm n) ∧ (n.s.length ≤ 1000000) ∧ K (.bool (q0j mask l n)) objs 0))
  | _ => False
theorem qju : CtrOk Tryz.prog f_atom_Member (qb6) := by
  intro args objs K h
  unfold qb6 at h
  split at h
  · rename_i mask a1 a2
    obtain ⟨l, rfl, n, rfl, h1, h2, h3, h4, h5, hk⟩ := h
    exact ⟨_, _, _, .pure _ rfl (q5p mask l n h1 h2 h3 h4 h5), hk⟩
  · exact h.elim
def leO (mask : Int) (l : List Atm) (x : Nd) (b : Bool) : List Obj := [⟨t_int, 1, [.int .i64 mask], true, 1⟩, ⟨t_L_api_Atom, 1, [encAs l], true, 1⟩, ⟨t_api_Node, 6, [encN x], true, 1⟩, ⟨t_bool, 1, [.bool b], true, 1⟩]
theorem qdn (mask : Int) (l : List Atm) (x : Nd) (b : Bool) : NoRefs (leO mask l x b ++ [ghA, hole]) := by
  intro o ho y hy c hc
  simp only [leO, List.cons_append, List.nil_append, List.mem_cons, List.not_mem_nil, or_false] at ho
  rcases ho with rfl | rfl | rfl | rfl | rfl | rfl
  · simp only [List.mem_singleton] at hy; subst hy
    simp only [PV.cells, List.mem_singleton] at hc; subst hc; rfl
  · simp only [List.mem_singleton] at hy; subst hy
    simp only [encAs, PV.cells, List.mem_singleton] at hc; subst hc; rfl
  · simp only [List.mem_singleton] at hy; subst hy
    simp only [encN, PV.cells, List.mem_cons, List.not_mem_nil, or_false] at hc
    rcases hc with rfl | rfl | rfl | rfl | rfl | rfl <;> rfl
  · simp only [List.mem_singleton] at hy; subst hy
    simp only [PV.cells, List.mem_singleton] at hc; subst hc; rfl
  · cases hy
  · cases hy
theorem qol (mask : Int) (l : List Atm) (x : Nd) (b : Bool) : Gh 4 (leO mask l x b ++ [ghA, hole]) := ⟨Nat.le_refl _, (qdn mask l x b).lt, rfl, rfl⟩
def q6e (mask : Int) (l : List Atm) : PV := .tup [encN (q8a mask l).1, .bool (q8a mask l).2]
theorem qjv (l : List Nd) : ∀ y ∈ l.map (fun s => [encN s]), y.length = 1 := by
  intro y hy
  obtain ⟨p, _, rfl⟩ := List.mem_map.1 hy
  rfl
theorem qjw {l : List Nd} {i : Nat} {args : List PV} (h : (l.map fun s => [encN s])[i]? = some args) : ∃ s, l[i]? = some s ∧ args = [encN s] := by
  rw [List.getElem?_map] at h
  cases hx : l[i]? with
  | none => rw [hx] at h; simp at h
  | some p => rw [hx] at h; exact ⟨p, rfl, by simpa using h.symm⟩
theorem qmp {mask : Int} {l : List Atm} {i : Nat} {c : Nd} (h : (candA l)[i]? = some c) (hm : q0j mask l c = true) (hb : ∀ (j : Nat) d, j < i → (candA l)[j]? = some d → q0j mask l d = false) : q8a mask l = (c, true) := by
  have : (candA l).find? (fun n => q0j mask l n) = some c := by
    rw [List.find?_eq_some_iff_getElem]
    obtain ⟨hi, he⟩ := List.getElem?_eq_some_iff.1 h
    refine ⟨hm, i, hi, he, fun j hj => ?_⟩
    have := hb j _ hj (List.getElem?_eq_getElem (by omega))
    simp [this]
  simp [q8a, this]
theorem qjx {mask : Int} {l : List Atm} (hb : ∀ (j : Nat) d, (candA l)[j]? = some d → q0j mask l d = false) : q8a mask l = (zeroN, false) := by
  have : (candA l).find? (fun n => q0j mask l n) = none := by
    rw [List.find?_eq_none]
    intro x hx
    obtain ⟨i, hi⟩ := List.mem_iff_getElem?.1 hx
    simp [hb i x hi]
  simp [q8a, this]
theorem qi0 (mask : Int) (l : List Atm) (x : Nd) (b : Bool) (o : Obj) (tm : List PV) : (St.norm [] (some (1, 6)) ⟨tm, leO mask l x b ++ [ghA, hole, o]⟩).objs = leO mask l x b ++ [ghA, hole] :=
  qcr (objs := leO mask l x b ++ [ghA, hole]) (qdn mask l x b).lt
theorem CmpOk.num {n : Nd} (h : CmpOk n) (hk : n.kind = 3) : NumR n := by
  have hb := (q43 n).1 (q4m (q23 h.sc).1 hk)
  refine ⟨hb.2.2.1, hb.2.1, hb.2.2.2.1, hb.2.2.2.2.1, fun hs => ?_⟩
  have hl := hb.2.2.2.2.2.2
  rw [if_neg hs] at hl
  unfold Lib.trimRightB
  have hne : n.s.reverse ≠ [] := by simpa using hs
  obtain ⟨x, r, hx⟩ := List.exists_cons_of_ne_nil hne
  have hx0 : x ≠ 48 := fun e => hl.2 (by rw [← List.head?_reverse, hx, e]; rfl)
  have : (x == (48 : UInt8)) = false := by simpa using hx0
  rw [hx, List.dropWhile_cons, this]
  simp
theorem qjy (neg : Bool) (f : List UInt8) (e : Int) : (makeN neg f e).1.name = [] := by
  unfold makeN
  split
  · rfl
  split
  · rfl
  split
  · rfl
  split <;> rfl
theorem qfk (n : Nd) (b : Bool) : (q0y n b).1.s.length ≤ 100 ∧ (q0y n b).1.name = [] := by
  unfold q0y
  split
  · exact ⟨by simp, rfl⟩
  · exact ⟨qml _ _ _, qjy _ _ _⟩
theorem qjz {l : List Atm} (hc : ∀ a ∈ l, CmpOk a.c) (hs : ∀ a ∈ l, a.c.s.length ≤ 500000) : ∀ c ∈ candA l, NdSm c ∧ c.s.length ≤ 500001 := by
  have key : ∀ c : Nd, c.name = [] → c.s.length ≤ 500001 → NdSm c ∧ c.s.length ≤ 500001 := fun c h1 h2 => ⟨⟨by omega, by rw [h1]; simp⟩, h2⟩
  intro c hcm
  simp only [candA, List.mem_append, List.mem_cons, List.not_mem_nil, or_false, q65, q66, List.mem_flatten, List.mem_map] at hcm
  rcases hcm with ((rfl | rfl | rfl | rfl) | ⟨x, ⟨a, ha, rfl⟩, hx⟩) | rfl | ⟨x, ⟨a, ha, rfl⟩, hx⟩
  · exact key _ rfl (by simp)
  · exact key _ rfl (by simp)
  · exact key _ rfl (by simp)
  · exact key _ rfl (by simp)
  · by_cases hk : a.c.kind = 3
    · rw [qfj hk] at hx
      simp only [List.mem_append, List.mem_cons, List.not_mem_nil, or_false] at hx
      have hb : ∀ b, c ∈ bes a b → NdSm c ∧ c.s.length ≤ 500001 := fun b hb => by
        unfold bes at hb
        split at hb
        · rw [List.mem_singleton] at hb; subst hb
          have := qfk a.c b
          exact key _ this.2 (by omega)
        · cases hb
      rcases hx with (rfl | hx) | hx
      · exact key _ (q23 (hc a ha).sc).2.1 (by have := hs a ha; omega)
      · exact hb _ hx
      · exact hb _ hx
    · rw [show cand1 a = [] from if_neg hk] at hx; cases hx
  · exact key _ rfl (by simp)
  · by_cases hk : a.c.kind = 4
    · rw [show cand2 a = [a.c, ⟨4, 0, [], a.c.s ++ [0], false, 0⟩] from if_pos hk] at hx
      have hsa := hs a ha
      simp only [List.mem_cons, List.not_mem_nil, or_false] at hx
      rcases hx with rfl | rfl
      · exact key _ (q23 (hc a ha).sc).2.1 (by omega)
      · exact key _ rfl (by simp; omega)
    · rw [show cand2 a = [] from if_neg hk] at hx; cases hx
theorem qk0 (mask : Int) (l : List Atm) (hm : 0 ≤ mask ∧ mask ≤ 31) (hl : l.length ≤ 1000000) (hc : ∀ a ∈ l, CmpOk a.c) (hs : ∀ a ∈ l, a.c.s.length ≤ 500000) : FnSpec Tryz.prog f_atom_Least [.int .i64 mask, encAs l] [] (q6e mask l) [] := by
  refine k_atom_Least.pureCC (T := tabL Tryz.prog [(f_atom_candidates, q9h), (f_atom_Member, qb6)]) 1 hD (q0e (q0c qh3 (q0c qju q0d))) hmix (by decide) (by decide) fun Q hQ => ?_
  try simp only [F_all]
  have hgv := qjt l hl (fun a ha hk => (hc a ha).num hk) (fun a ha => by have := hs a ha; omega)
  simp (maxSteps := 400000) only [↓preZ, postZ, coreZ, ↓preU, postU, ↓preA, postA, D_all, F_all, unR, outL, onePV, binS, ↓binS, q03, ↓q03, q01, ↓q01, boxR, q0b, newObj, q05, q00, q06, q09, q0a, St.freeze, q02, q07, q04, BEq.rfl, reduceIte, reduceCtorEq, Nat.reduceLT, Nat.reduceAdd, Nat.reduceSub, Nat.reduceMul, Nat.reduceBEq, Nat.reduceLeDiff, Int.reduceToNat, Int.reduceLE, hQ, q8p, ↓q9h, nodeZ, nodeW]
  refine qpb f_atom_candidates_1 [.addr (encAs l)] ((candA l).map fun c => [encN c])
    (fun i O => (∀ (j : Nat) d, j < i → (candA l)[j]? = some d → q0j mask l d = false) ∧ i ≤ (candA l).length ∧ O = leO mask l ⟨0, 0, [], [], false, 0⟩ false ++ [ghA, hole])
    (fun i O => ∃ c, (candA l)[i]? = some c ∧ q0j mask l c = true ∧ (∀ (j : Nat) d, j < i → (candA l)[j]? = some d → q0j mask l d = false) ∧ O = leO mask l c true ++ [ghA, hole]) .ret rfl rfl rfl rfl (Nat.le_refl _) hgv (qjv _) ⟨fun j q h => absurd h (Nat.not_lt_zero j), Nat.zero_le _, rfl⟩ ?_ ?_ ?_ ?_ ?_
  · rintro i O ⟨_, _, rfl⟩
    exact qol _ _ _ _
  · rintro i O ⟨c, _, _, _, rfl⟩
    exact ⟨qol _ _ _ _, qdn _ _ _ _⟩
  · rintro i args O ⟨hb, hi, rfl⟩ ha
    obtain ⟨c, hci, rfl⟩ := qjw ha
    have hil := (List.getElem?_eq_some_iff.1 hci).1
    unfold leO
    have hsm := qjz hc hs c (List.mem_of_getElem? hci)
    cases he : q0j mask l c
    · simp (maxSteps := 400000) only [↓preZ, postZ, coreZ, ↓preU, postU, ↓preA, postA, D_all, F_all, unR, outL, onePV, binS, ↓binS, q03, ↓q03, q01, ↓q01, boxR, q0b, newObj, q05, q00, q06, q09, q0a, St.freeze, q02, q07, q04, BEq.rfl, reduceIte, reduceCtorEq, Nat.reduceLT, Nat.reduceAdd, Nat.reduceSub, Nat.reduceMul, Nat.reduceBEq, Nat.reduceLeDiff, Int.reduceToNat, Int.reduceLE, hQ, setL, knI, nodeZ, nodeW, etaN, ↓qb6, he]
      refine ⟨hm, hl, hc, hsm.1, by omega, fun j d hj hd => ?_, by omega, qi0 mask l ⟨0, 0, [], [], false, 0⟩ false _ _⟩
      rcases Nat.lt_or_ge j i with g | g
      · exact hb j d g hd
      · have : j = i := by omega
        subst this
        rw [hci] at hd; cases hd; exact he
    · simp (maxSteps := 400000) only [↓preZ, postZ, coreZ, ↓preU, postU, ↓preA, postA, D_all, F_all, unR, outL, onePV, binS, ↓binS, q03, ↓q03, q01, ↓q01, boxR, q0b, newObj, q05, q00, q06, q09, q0a, St.freeze, q02, q07, q04, BEq.rfl, reduceIte, reduceCtorEq, Nat.reduceLT, Nat.reduceAdd, Nat.reduceSub, Nat.reduceMul, Nat.reduceBEq, Nat.reduceLeDiff, Int.reduceToNat, Int.reduceLE, hQ, setL, knI, nodeZ, nodeW, etaN, ↓qb6, he]
      exact ⟨hm, hl, hc, hsm.1, by omega, rfl, c, hci, he, hb, qi0 mask l c true _ _⟩
  · rintro O ⟨hb, hi, rfl⟩
    unfold leO
    simp (maxSteps := 400000) only [↓preZ, postZ, coreZ, ↓preU, postU, ↓preA, postA, D_all, F_all, unR, outL, onePV, binS, ↓binS, q03, ↓q03, q01, ↓q01, boxR, q0b, newObj, q05, q00, q06, q09, q0a, St.freeze, q02, q07, q04, BEq.rfl, reduceIte, reduceCtorEq, Nat.reduceLT, Nat.reduceAdd, Nat.reduceSub, Nat.reduceMul, Nat.reduceBEq, Nat.reduceLeDiff, Int.reduceToNat, Int.reduceLE, hQ, nodeZ, nodeW]
    have hr : q6e mask l = .tup [encN zeroN, .bool false] := by
      have := qjx (mask := mask) (l := l) fun j d hd => hb j d (by rw [List.length_map]; exact (List.getElem?_eq_some_iff.1 hd).1) hd
      simp [q6e, this]
    exact ⟨by decide, rfl, by rw [hr]; rfl⟩
  · rintro i O hi ⟨c, hci, he, hb, rfl⟩
    unfold leO
    simp (maxSteps := 400000) only [↓preZ, postZ, coreZ, ↓preU, postU, ↓preA, postA, D_all, F_all, unR, outL, onePV, binS, ↓binS, q03, ↓q03, q01, ↓q01, boxR, q0b, newObj, q05, q00, q06, q09, q0a, St.freeze, q02, q07, q04, BEq.rfl, reduceIte, reduceCtorEq, Nat.reduceLT, Nat.reduceAdd, Nat.reduceSub, Nat.reduceMul, Nat.reduceBEq, Nat.reduceLeDiff, Int.reduceToNat, Int.reduceLE, hQ, nodeZ, nodeW]
    have hr : q6e mask l = .tup [encN c, .bool true] := by
      simp [q6e, qmp hci he hb]
    rw [hr]
    exact ⟨_, _, rfl, rfl, rfl, rfl, Nat.le_refl _, rfl, _, _, rfl, rfl, rfl, rfl, Nat.le_refl _, rfl, rfl⟩
def q9i : Ctr := fun args objs K => match args with
  | [.int .i64 mask, a1] => ofE encAs a1 (HK.mk : HK fun l => (0 ≤ mask ∧ mask ≤ 31) ∧ (l.length ≤ 1000000) ∧ (∀ a ∈ l, CmpOk a.c) ∧ (∀ a ∈ l, a.c.s.length ≤ 500000) ∧ K (q6e mask l) objs 0)
  | _ => False
theorem qh4 : CtrOk Tryz.prog f_atom_Least (q9i) := by
  intro args objs K h
  unfold q9i at h
  split at h
  · rename_i mask a1
    obtain ⟨l, rfl, h1, h2, h3, h4, hk⟩ := h
    exact ⟨_, _, _, .pure _ rfl (qk0 mask l h1 h2 h3 h4), hk⟩
  · exact h.elim
end Lp

/-! LpE9 -/

namespace Lp
open Go Go.Proofs Go.RowKit
set_option maxHeartbeats 8000000
set_option maxRecDepth 100000
set_option linter.unusedSimpArgs false
def one11 : Nd := ⟨3, 0, [], [49], false, 0⟩
def up11 : Nd := (q0y one11 true).1
theorem facts11 : (q0y one11 true).2 = true ∧ up11.s.length = 100 ∧ up11.e = -99 ∧ q8a 8 [⟨4, one11⟩] = (up11, true) ∧ q8a 8 [⟨4, one11⟩, ⟨2, one11⟩] = (zeroN, false) ∧ q25 ⟨0, one11⟩ one11 = true ∧ q0j 8 [] one11 = true ∧ q67 ⟨0, one11⟩ = true ∧ scalB one11 = true := by
  refine ⟨?_, ?_, ?_, ?_, ?_, ?_, ?_, ?_, ?_⟩ <;> decide +kernel
theorem cmp11 : CmpOk one11 := ⟨facts11.2.2.2.2.2.2.2.2, by decide⟩
def qdo : Ctr := fun args objs K => ∃ n, args = [.int .i64 8, .sl 0 [] (some true), encN n] ∧ NdSm n ∧ n.s.length ≤ 1000000 ∧ K (.bool (q0j 8 [] n)) objs 0
theorem qh5 : CtrOk Tryz.prog f_atom_Member qdo := by
  rintro args objs K ⟨n, rfl, h4, h5, hk⟩
  exact q7s _ _ _ ⟨8, [], n, .inr ⟨rfl, rfl⟩, by decide, by simp, by simp, h4, h5, hk⟩
theorem qfl : FnSpec Tryz.prog f_loupelaw11_alive [] [] (.bool true) [] := by
  refine k_loupelaw11_alive.pureG (T := tabL Tryz.prog [(f_atom_Beside, q2h), (f_atom_Least, q9i), (f_atom_Holds, q1v), (f_atom_Member, qdo), (f_atom_Turn, q2e), (f_atom_Right, q7r)]) 0 hD (q0e (q0c q8w (q0c qh4 (q0c q5n (q0c qh5 (q0c qaz (q0c qfb q0d))))))) hmix (by decide) fun Q hQ => ?_
  try simp only [F_all]
  obtain ⟨t1, t2, t3, t4, t5, t6, t7, t8, t9⟩ := facts11
  have b1 : q2g one11 true = .tup [encN up11, .bool true] := by unfold q2g; rw [t1]; rfl
  have l1 : q6e 8 [⟨4, one11⟩] = .tup [encN up11, .bool true] := by unfold q6e; rw [t4]
  have l2 : q6e 8 [⟨4, one11⟩, ⟨2, one11⟩] = .tup [encN zeroN, .bool false] := by unfold q6e; rw [t5]
  have e0 : (⟨3, 0, [], [49], false, 0⟩ : Nd) = one11 := rfl
  have hl : (((up11.s.length : Nat) : Int) = 100) = True := eq_true (by rw [t2]; rfl)
  have t3' : (up11.e = -99) = True := eq_true t3
  have tt : turnI 2 = 5 := rfl
  simp (maxSteps := 400000) only [↓preZ, postZ, coreZ, ↓preU, postU, ↓preA, postA, D_all, F_all, unR, outL, onePV, binS, ↓binS, q03, ↓q03, q01, ↓q01, boxR, q0b, newObj, q05, q00, q06, q09, q0a, St.freeze, q02, q07, q04, BEq.rfl, reduceIte, reduceCtorEq, Nat.reduceLT, Nat.reduceAdd, Nat.reduceSub, Nat.reduceMul, Nat.reduceBEq, Nat.reduceLeDiff, Int.reduceToNat, Int.reduceLE, hQ, q42, ↓q2h, ↓q9i, ↓q1v, ↓qdo, ↓q2e, ↓q7r, e0, b1, l1, l2, hl, t3', atomZ, t6, t7, t8, tt, q16, nodeZ, nodeW, etaN]
  have len1 : one11.s.length ≤ 500000 := by decide
  have nsm : NdSm one11 := ⟨by decide, by decide⟩
  have s1 : ∀ l : List Atm, (∀ a ∈ l, a.c = one11) → (∀ a ∈ l, CmpOk a.c) ∧ (∀ a ∈ l, a.c.s.length ≤ 500000) := fun l h => ⟨fun a ha => by rw [h a ha]; exact cmp11, fun a ha => by rw [h a ha]; exact len1⟩
  have q1 := s1 [⟨4, one11⟩] (by simp)
  have q2 := s1 [⟨4, one11⟩, ⟨2, one11⟩] (by simp)
  refine ⟨cmp11.num rfl, q1.1, q1.2, q2.1, q2.2, eqOkN up11 up11, true, (eqLN up11 up11).trans (by simp), ?_⟩
  simp only [ifR]
  refine ⟨cmp11, cmp11, one11, rfl, nsm, by omega, ?_⟩
  rw [t7]
  simp only [ifR]
  exact nsm
def q1s : Ctr := fun args objs K => match args with
  | [] => K (.bool true) objs 0
  | _ => False
theorem qdp : CtrOk Tryz.prog f_loupelaw11_alive (q1s) := by
  intro args objs K h
  unfold q1s at h
  split at h
  · skip
    have hk := h
    exact ⟨_, _, _, .pure _ rfl (qfl), hk⟩
  · exact h.elim
end Lp

/-! LpRd -/

namespace Lp
open Go Go.Proofs
set_option maxHeartbeats 2000000
set_option maxRecDepth 20000
instance : Inhabited Nd := ⟨⟨0, 0, [], [], false, 0⟩⟩
structure BigN (n : Nd) : Prop where
  kind : inR .i64 n.kind
  many : inR .i64 n.many
  name : n.name.length ≤ reachBytes
  s : n.s.length ≤ reachBytes
  e : inR .i64 n.e
theorem q4y {t : TypeId} (hc : Tryz.prog.cellsOf t = 1) {cs : List Value} {off : Nat} {v : Value} (h : cs[off]? = some v) : (cs.drop off).take (Tryz.prog.cellsOf t) = [v] := by
  rw [hc]
  have hl := (List.getElem?_eq_some_iff.1 h).1
  rw [show (cs.drop off) = cs[off] :: cs.drop (off + 1) from List.drop_eq_getElem_cons hl]
  rw [List.getElem?_eq_getElem hl] at h
  cases h
  rw [List.take_succ_cons, List.take_zero]
theorem u_int : Tryz.prog.underlying t_int = some (.int .i64) := by kernel_rfl
theorem qi1 : Tryz.prog.underlying t_string = some .string := by kernel_rfl
theorem u_bool : Tryz.prog.underlying t_bool = some .bool := by kernel_rfl
theorem c_int : Tryz.prog.cellsOf t_int = 1 := by kernel_rfl
theorem qi2 : Tryz.prog.cellsOf t_string = 1 := by kernel_rfl
theorem c_bool : Tryz.prog.cellsOf t_bool = 1 := by kernel_rfl
theorem qom : ∃ fs : Array Field, Tryz.prog.underlying t_api_Node = some (.struct fs) ∧ fs.toList.map (fun f => (f.offset, f.type)) = [(0, t_int), (1, t_int), (2, t_string), (3, t_string), (4, t_bool), (5, t_int)] :=
  ⟨Tryz.prog.fieldsOf t_api_Node, by kernel_rfl, by kernel_rfl⟩
theorem qmq : Rd Tryz.prog t_api_Node encN BigN := by
  intro H eh w fuel cs x h hw
  obtain ⟨fs, ht, hfs⟩ := qom
  obtain ⟨hl, hp⟩ := q8q ht h hw
  rw [hfs] at hp
  have hc : Tryz.prog.cellsOf t_api_Node = 6 := by kernel_rfl
  rw [hc] at hl
  match cs, hl with
  | [v0, v1, v2, v3, v4, v5], _ =>
    obtain ⟨n0, y0, a0, b0⟩ := hp 0 0 t_int rfl
    obtain ⟨n1, y1, a1, b1⟩ := hp 1 1 t_int rfl
    obtain ⟨n2, y2, a2, b2⟩ := hp 2 2 t_string rfl
    obtain ⟨n3, y3, a3, b3⟩ := hp 3 3 t_string rfl
    obtain ⟨n4, y4, a4, b4⟩ := hp 4 4 t_bool rfl
    obtain ⟨n5, y5, a5, b5⟩ := hp 5 5 t_int rfl
    rw [q4y c_int (v := v0) rfl] at a0
    rw [q4y c_int (v := v1) rfl] at a1
    rw [q4y qi2 (v := v2) rfl] at a2
    rw [q4y qi2 (v := v3) rfl] at a3
    rw [q4y c_bool (v := v4) rfl] at a4
    rw [q4y c_int (v := v5) rfl] at a5
    obtain ⟨k, g0, r0⟩ := Rd.int u_int eh w n0 _ _ a0 b0
    obtain ⟨m, g1, r1⟩ := Rd.int u_int eh w n1 _ _ a1 b1
    obtain ⟨nm, g2, r2⟩ := Rd.str qi1 eh w n2 _ _ a2 b2
    obtain ⟨s, g3, r3⟩ := Rd.str qi1 eh w n3 _ _ a3 b3
    obtain ⟨g, _, r4⟩ := Rd.bool u_bool eh w n4 _ _ a4 b4
    obtain ⟨e, g5, r5⟩ := Rd.int u_int eh w n5 _ _ a5 b5
    refine ⟨⟨k, m, nm, s, g, e⟩, ⟨g0, g1, g2, g3, g5⟩, rfl, fun i p v h1 h2 => ?_⟩
    match i with
    | 0 => simp [encN, PV.cells] at h1 h2; subst h1; subst h2; exact r0.2 0 _ _ rfl rfl
    | 1 => simp [encN, PV.cells] at h1 h2; subst h1; subst h2; exact r1.2 0 _ _ rfl rfl
    | 2 => simp [encN, PV.cells] at h1 h2; subst h1; subst h2; exact r2.2 0 _ _ rfl rfl
    | 3 => simp [encN, PV.cells] at h1 h2; subst h1; subst h2; exact r3.2 0 _ _ rfl rfl
    | 4 => simp [encN, PV.cells] at h1 h2; subst h1; subst h2; exact r4.2 0 _ _ rfl rfl
    | 5 => simp [encN, PV.cells] at h1 h2; subst h1; subst h2; exact r5.2 0 _ _ rfl rfl
    | i + 6 => simp [encN, PV.cells] at h1
structure Big (v : Vl) : Prop where
  len : v.length ≤ 1152921504606846976
  txt : ∀ n ∈ v, n.s.length ≤ 4611686018427387904 ∧ n.name.length ≤ 4611686018427387904
  nd : ∀ n ∈ v, BigN n
structure BigL (l : List Vl) : Prop where
  len : l.length ≤ 1152921504606846976
  all : ∀ v ∈ l, Big v
theorem rd_arg {t e : TypeId} {α : Type} {enc : α → PV} {good : α → Prop} (hu : Tryz.prog.underlying t = some (.slice e)) (hr : Rd Tryz.prog t enc good) (h1 : ∀ a, (enc a).cells = [enc a]) {H : Type} {eh : TypeId × Value → H} {w : World} {base : Nat} {v : Value} {d : DataW H} {p : List MemPlace}
    (hv : Value.okWide Tryz.prog w .any base t v) (h : DataW.Trod eh Tryz.prog w 0 (fun _ => true) true t v d p) (hw : ∀ n ∈ DataW.weights Tryz.prog t d, n ≤ reachBytes) : ∃ a : α, good a ∧ Rep w (fun _ => True) (enc a) v := by
  obtain ⟨ad, len, cap, rfl⟩ := Go.WideShapes.okWide_slice hu hv
  obtain ⟨fuel, h⟩ := h
  obtain ⟨a, g, r⟩ := hr eh w fuel _ _ h hw
  rw [h1 a] at r
  exact ⟨a, g, r.2 0 _ _ rfl rfl⟩
theorem repL_cons {R : PV → Value → Prop} {p : PV} {ps : List PV} {v : Value} {vs : List Value} (h : R p v) (hs : RepL R ps vs) : RepL R (p :: ps) (v :: vs) :=
  ⟨by simp [hs.1], fun i q u h1 h2 => by
    cases i with
    | zero => simp at h1 h2; subst h1; subst h2; exact h
    | succ i => exact hs.2 i q u (by simpa using h1) (by simpa using h2)⟩
theorem repL_nil {R : PV → Value → Prop} : RepL R [] [] := ⟨rfl, fun i q u h1 => by simp at h1⟩
end Lp

/-! LpMA1 -/

namespace Lp
open Go Go.Proofs Go.RowKit
set_option maxHeartbeats 8000000
set_option maxRecDepth 100000
set_option linter.unusedSimpArgs false
def okAs (x : PV) (l : List Atm) : Prop := x = encAs l ∨ (x = .sl 0 [] (some true) ∧ l = [])
theorem q8x (a : List Atm) (P : List Atm → Prop) : (∃ l, okAs (encAs a) l ∧ P l) = P a := by
  apply propext
  constructor
  · rintro ⟨l, h | ⟨h, _⟩, hp⟩
    · rw [q5k _ _ h]; exact hp
    · simp [encAs] at h
  · exact fun h => ⟨a, .inl rfl, h⟩
theorem okAs_n (P : List Atm → Prop) : (∃ l, okAs (.sl 0 [] (some true)) l ∧ P l) = P [] := by
  apply propext
  constructor
  · rintro ⟨l, h | ⟨_, rfl⟩, hp⟩
    · simp [encAs] at h
    · exact hp
  · exact fun h => ⟨[], .inr ⟨rfl, rfl⟩, h⟩
def qdq : Ctr := fun args objs K => match args with
  | [.int .i64 mask, x, y] => ∃ l, okAs x l ∧ ∃ n, y = encN n ∧ (0 ≤ mask ∧ mask ≤ 31) ∧ l.length ≤ 1000000 ∧ (∀ a ∈ l, CmpOk a.c) ∧ NdSm n ∧ n.s.length ≤ 1000000 ∧ K (.bool (q0j mask l n)) objs 0
  | _ => False
theorem qk1 : CtrOk Tryz.prog f_louperef11_Member qdq := by
  intro args objs K h
  unfold qdq at h
  split at h
  · obtain ⟨l, hx, n, rfl, h1, h2, h3, h4, h5, hk⟩ := h
    refine qdm _ _ _ ⟨_, l, n, ?_, h1, h2, h3, h4, h5, hk⟩
    rcases hx with rfl | ⟨rfl, rfl⟩
    · exact .inl rfl
    · exact .inr ⟨rfl, rfl⟩
  · exact h.elim
def q6f : Ctr := fun args objs K => match args with
  | [.int .i64 mask, x, y] => ∃ l, okAs x l ∧ ∃ n, y = encN n ∧ (0 ≤ mask ∧ mask ≤ 31) ∧ l.length ≤ 1000000 ∧ (∀ a ∈ l, CmpOk a.c) ∧ NdSm n ∧ n.s.length ≤ 1000000 ∧ K (.bool (q0j mask l n)) objs 0
  | _ => False
theorem qmr : CtrOk Tryz.prog f_atom_Member q6f := by
  intro args objs K h
  unfold q6f at h
  split at h
  · obtain ⟨l, hx, n, rfl, h1, h2, h3, h4, h5, hk⟩ := h
    refine q7s _ _ _ ⟨_, l, n, ?_, h1, h2, h3, h4, h5, hk⟩
    rcases hx with rfl | ⟨rfl, rfl⟩
    · exact .inl rfl
    · exact .inr ⟨rfl, rfl⟩
  · exact h.elim
structure BigAs (l : List Atm) : Prop where
  len : l.length ≤ 1152921504606846976
  all : ∀ a ∈ l, NdSm a.c
theorem qvu {l : List Atm} {k : Int} (h : allA l k = true) : (∀ a ∈ l, CmpOk a.c ∧ a.c.s.length ≤ 200 ∧ 0 ≤ a.n ∧ a.n ≤ 5) ∧ (l.length : Int) ≤ k := by
  simp only [allA, Bool.and_eq_true, decide_eq_true_eq, List.all_eq_true] at h
  refine ⟨fun a ha => ?_, h.1⟩
  have := h.2 a ha
  simp only [atmB, q67, Bool.and_eq_true, decide_eq_true_eq] at this
  exact ⟨⟨this.2.2, by omega⟩, this.1, this.2.1.1, this.2.1.2⟩
end Lp

/-! LpMA2 -/

namespace Lp
open Go Go.Proofs Go.RowKit
set_option maxHeartbeats 8000000
set_option maxRecDepth 100000
set_option linter.unusedSimpArgs false
def encI2 (p : Int × Int) : PV := .agg [.int .i64 p.1, .int .i64 p.2]
structure BigI2 (p : Int × Int) : Prop where
  one : -9223372036854775808 ≤ p.1 ∧ p.1 ≤ 9223372036854775807
  two : -9223372036854775808 ≤ p.2 ∧ p.2 ≤ 9223372036854775807
theorem frzI2 (a b : Int) (n : Nd) : frz 1 0 [⟨t__2_int, 2, [.agg [.int .i64 a, .int .i64 b]], true, 1⟩, ⟨t_api_Node, 6, [encN n], true, 1⟩] (.optr 0 1 0 0) = .addr (.agg [.int .i64 a, .int .i64 b]) ∧
    frz 1 0 [⟨t__2_int, 2, [.agg [.int .i64 a, .int .i64 b]], true, 1⟩, ⟨t_api_Node, 6, [encN n], true, 1⟩] (.optr 1 1 0 0) = .addr (encN n) := ⟨rfl, rfl⟩
theorem ixI2 (a b : Int) (objs : List Obj) (K : KT) :
    (q0h D t__2_int (.addr (.agg [.int .i64 a, .int .i64 b])) (.int .i64 0) objs K = K (.addr (.int .i64 a)) objs 0) ∧
    (q0h D t__2_int (.addr (.agg [.int .i64 a, .int .i64 b])) (.int .i64 1) objs K = K (.addr (.int .i64 b)) objs 0) := by
  have h1 : (D t_int).kind ≠ .none := by intro h; cases h
  exact ⟨propext ⟨fun h => h.2.2.2.2.2.2, fun h => ⟨h1, by decide, by decide, Nat.le_of_ble_eq_true rfl, by decide, rfl, h⟩⟩,
    propext ⟨fun h => h.2.2.2.2.2.2, fun h => ⟨h1, by decide, by decide, Nat.le_of_ble_eq_true rfl, by decide, rfl, h⟩⟩⟩
theorem slAs (l : List Atm) (i : Nat) (hi : i ≤ l.length) (objs : List Obj) (K : KT) : q21 D t_L_api_Atom (encAs l) none (some (.int .i64 i)) objs K = K (encAs (l.take i)) objs 0 := by
  have h1 : (D t_api_Atom).kind ≠ .none := by intro h; cases h
  have e : ((l.map encA).take (Int.toNat i)).drop (Int.toNat 0) = (l.take i).map encA := by simp [List.map_take]
  refine propext ⟨fun h => ?_, fun h => ⟨h1, .inr rfl, ?_⟩⟩
  · have h' := h.2.2.2.2.2
    rw [e] at h'
    exact h'
  · refine ⟨by omega, by omega, by simp; omega, ?_⟩
    show K (.sl 7 (((l.map encA).take (Int.toNat i)).drop (Int.toNat 0)) none) objs 0
    rw [e]
    exact h
theorem atomW (a : Atm) (k : Int) (c : Nd) : (encA a).putCells 0 [.int .i64 k, .int .i64 c.kind, .int .i64 c.many, .str c.name, .str c.s, .bool c.neg, .int .i64 c.e] = encA ⟨k, c⟩ := rfl
theorem qc9 (k : Int) (c : Nd) : PV.agg [.int .i64 k, .int .i64 c.kind, .int .i64 c.many, .str c.name, .str c.s, .bool c.neg, .int .i64 c.e] = encA ⟨k, c⟩ := rfl
theorem orR (a b : Int) (K : PV → Prop) : binI .or .i64 .i64 a b K = K (.int .i64 (bitsI .or .i64 a b)) := by simp [binI]
theorem exN (n : Nd) (P : Nd → Prop) : (∃ m, encN n = encN m ∧ P m) = P n := propext ⟨fun ⟨m, h1, h2⟩ => by rw [q5w _ _ h1]; exact h2, fun h => ⟨n, rfl, h⟩⟩
theorem qnz : ∀ a ∈ List.range 32, ∀ b ∈ List.range 32, (bitsI .or .i64 (a : Int) (b : Int) = ((a ||| b : Nat) : Int) ∧ (a ||| b) ≤ 31 ∧ ∀ k ∈ List.range 5, letsB ((a ||| b : Nat) : Int) (k : Int) = (letsB (a : Int) k || letsB (b : Int) k)) := by decide +kernel
theorem qms {a b : Int} (ha : 0 ≤ a ∧ a ≤ 31) (hb : 0 ≤ b ∧ b ≤ 31) : 0 ≤ bitsI .or .i64 a b ∧ bitsI .or .i64 a b ≤ 31 ∧ ∀ k : Int, 0 ≤ k → k < 5 → letsB (bitsI .or .i64 a b) k = (letsB a k || letsB b k) := by
  obtain ⟨m, rfl⟩ := Int.eq_ofNat_of_zero_le ha.1
  obtain ⟨n, rfl⟩ := Int.eq_ofNat_of_zero_le hb.1
  obtain ⟨h1, h2, h3⟩ := qnz m (List.mem_range.2 (by omega)) n (List.mem_range.2 (by omega))
  rw [h1]
  refine ⟨by omega, by omega, fun k k0 k5 => ?_⟩
  obtain ⟨j, rfl⟩ := Int.eq_ofNat_of_zero_le k0
  exact h3 j (List.mem_range.2 (by omega))
theorem mem_or {a b : Int} (ha : 0 ≤ a ∧ a ≤ 31) (hb : 0 ≤ b ∧ b ≤ 31) (l : List Atm) (n : Nd) : q0j (bitsI .or .i64 a b) l n = (q0j a l n || q0j b l n) := by
  unfold q0j
  cases hs : scalB n
  · rfl
  · have hk : 0 ≤ n.kind ∧ n.kind < 5 := ⟨(q23 hs).2.2.1, (q23 hs).2.2.2.1⟩
    rw [(qms ha hb).2.2 _ hk.1 hk.2]
    cases letsB a n.kind <;> cases letsB b n.kind <;> simp
theorem qo0 {m : Int} {l : List Atm} {n : Nd} (i : Nat) (h : q0j m l n = true) : q0j m (l.take i) n = true := by
  simp only [q0j, Bool.and_eq_true, List.all_eq_true] at h ⊢
  exact ⟨h.1, fun a ha => h.2 a (List.mem_of_mem_take ha)⟩
theorem qk2 {a : Atm} (n : Nd) (h : 0 ≤ a.n ∧ a.n ≤ 5) : q25 ⟨turnI a.n, a.c⟩ n = !q25 a n := qkb a.n _ h.1 h.2
theorem atomTurns_spec (p : Int × Int) (l : List Atm) (n : Nd) (hp : BigI2 p) (hl : BigAs l) (hn : NdSm n) : FnSpec Tryz.prog f_loupelaw11_AtomTurns [encI2 p, encAs l, encN n] [] (.bool true) [] := by
  have l0 := hl.len
  have l1 := hl.all
  obtain ⟨m0, m1⟩ := p
  obtain ⟨hp0, hp1⟩ := hp
  simp only at hp0 hp1
  simp only [encI2]
  refine k_loupelaw11_AtomTurns.pureG (T := tabL Tryz.prog [(f_loupelaw11_alive, q1s), (f_louperef11_All, q45), (f_louperef11_Member, qdq), (f_atom_Member, q6f), (f_atom_Holds, q1v), (f_atom_Turn, q2e)]) 0 hD (q0e (q0c qdp (q0c qjl (q0c qk1 (q0c qmr (q0c q5n (q0c qaz q0d))))))) hmix (by decide) fun Q hQ => ?_
  try simp only [F_all]
  simp (maxSteps := 400000) only [↓preZ, postZ, coreZ, ↓preU, postU, ↓preA, postA, D_all, F_all, unR, outL, onePV, binS, ↓binS, q03, ↓q03, q01, ↓q01, boxR, q0b, newObj, q05, q00, q06, q09, q0a, St.freeze, q02, q07, q04, BEq.rfl, reduceIte, reduceCtorEq, Nat.reduceLT, Nat.reduceAdd, Nat.reduceSub, Nat.reduceMul, Nat.reduceBEq, Nat.reduceLeDiff, Int.reduceToNat, Int.reduceLE, hQ, q2i]
  refine q0m _ (Weak.freeze 1 0 (Nat.zero_le _) _) ?_
  have l0' : l.length ≤ 4611686018427387904 := by omega
  cases ha : allA l 8
  · simp (maxSteps := 400000) only [↓preZ, postZ, coreZ, ↓preU, postU, ↓preA, postA, D_all, F_all, unR, outL, onePV, binS, ↓binS, q03, ↓q03, q01, ↓q01, boxR, q0b, newObj, q05, q00, q06, q09, q0a, St.freeze, q02, q07, q04, BEq.rfl, reduceIte, reduceCtorEq, Nat.reduceLT, Nat.reduceAdd, Nat.reduceSub, Nat.reduceMul, Nat.reduceBEq, Nat.reduceLeDiff, Int.reduceToNat, Int.reduceLE, hQ, frzI2, ixI2, ↓q45, ha, ↓q1s]
    repeat' (first | omega | exact l0' | exact l1 | exact (by decide) | refine ⟨?_, ?_⟩)
  rcases tf (m0 < 0) with h1 | h1
  · simp (maxSteps := 400000) only [↓preZ, postZ, coreZ, ↓preU, postU, ↓preA, postA, D_all, F_all, unR, outL, onePV, binS, ↓binS, q03, ↓q03, q01, ↓q01, boxR, q0b, newObj, q05, q00, q06, q09, q0a, St.freeze, q02, q07, q04, BEq.rfl, reduceIte, reduceCtorEq, Nat.reduceLT, Nat.reduceAdd, Nat.reduceSub, Nat.reduceMul, Nat.reduceBEq, Nat.reduceLeDiff, Int.reduceToNat, Int.reduceLE, hQ, frzI2, ixI2, ↓q45, ha, h1, ↓q1s]
    repeat' (first | omega | exact l0' | exact l1 | exact (by decide) | refine ⟨?_, ?_⟩)
  rcases tf (31 < m0) with h2 | h2
  · simp (maxSteps := 400000) only [↓preZ, postZ, coreZ, ↓preU, postU, ↓preA, postA, D_all, F_all, unR, outL, onePV, binS, ↓binS, q03, ↓q03, q01, ↓q01, boxR, q0b, newObj, q05, q00, q06, q09, q0a, St.freeze, q02, q07, q04, BEq.rfl, reduceIte, reduceCtorEq, Nat.reduceLT, Nat.reduceAdd, Nat.reduceSub, Nat.reduceMul, Nat.reduceBEq, Nat.reduceLeDiff, Int.reduceToNat, Int.reduceLE, hQ, frzI2, ixI2, ↓q45, ha, h1, h2, ↓q1s]
    repeat' (first | omega | exact l0' | exact l1 | exact (by decide) | refine ⟨?_, ?_⟩)
  rcases tf (m1 < 0) with h3 | h3
  · simp (maxSteps := 400000) only [↓preZ, postZ, coreZ, ↓preU, postU, ↓preA, postA, D_all, F_all, unR, outL, onePV, binS, ↓binS, q03, ↓q03, q01, ↓q01, boxR, q0b, newObj, q05, q00, q06, q09, q0a, St.freeze, q02, q07, q04, BEq.rfl, reduceIte, reduceCtorEq, Nat.reduceLT, Nat.reduceAdd, Nat.reduceSub, Nat.reduceMul, Nat.reduceBEq, Nat.reduceLeDiff, Int.reduceToNat, Int.reduceLE, hQ, frzI2, ixI2, ↓q45, ha, h1, h2, h3, ↓q1s]
    repeat' (first | omega | exact l0' | exact l1 | exact (by decide) | refine ⟨?_, ?_⟩)
  rcases tf (31 < m1) with h4 | h4
  · simp (maxSteps := 400000) only [↓preZ, postZ, coreZ, ↓preU, postU, ↓preA, postA, D_all, F_all, unR, outL, onePV, binS, ↓binS, q03, ↓q03, q01, ↓q01, boxR, q0b, newObj, q05, q00, q06, q09, q0a, St.freeze, q02, q07, q04, BEq.rfl, reduceIte, reduceCtorEq, Nat.reduceLT, Nat.reduceAdd, Nat.reduceSub, Nat.reduceMul, Nat.reduceBEq, Nat.reduceLeDiff, Int.reduceToNat, Int.reduceLE, hQ, frzI2, ixI2, ↓q45, ha, h1, h2, h3, h4, ↓q1s]
    repeat' (first | omega | exact l0' | exact l1 | exact (by decide) | refine ⟨?_, ?_⟩)
  rcases tf (200 < (n.s.length : Int)) with h5 | h5
  · simp (maxSteps := 400000) only [↓preZ, postZ, coreZ, ↓preU, postU, ↓preA, postA, D_all, F_all, unR, outL, onePV, binS, ↓binS, q03, ↓q03, q01, ↓q01, boxR, q0b, newObj, q05, q00, q06, q09, q0a, St.freeze, q02, q07, q04, BEq.rfl, reduceIte, reduceCtorEq, Nat.reduceLT, Nat.reduceAdd, Nat.reduceSub, Nat.reduceMul, Nat.reduceBEq, Nat.reduceLeDiff, Int.reduceToNat, Int.reduceLE, hQ, frzI2, ixI2, ↓q45, ha, h1, h2, h3, h4, h5, ↓q1s]
    repeat' (first | omega | exact l0' | exact l1 | exact (by decide) | refine ⟨?_, ?_⟩)
  simp (maxSteps := 400000) only [↓preZ, postZ, coreZ, ↓preU, postU, ↓preA, postA, D_all, F_all, unR, outL, onePV, binS, ↓binS, q03, ↓q03, q01, ↓q01, boxR, q0b, newObj, q05, q00, q06, q09, q0a, St.freeze, q02, q07, q04, BEq.rfl, reduceIte, reduceCtorEq, Nat.reduceLT, Nat.reduceAdd, Nat.reduceSub, Nat.reduceMul, Nat.reduceBEq, Nat.reduceLeDiff, Int.reduceToNat, Int.reduceLE, hQ, frzI2, ixI2, ↓q45, ha, h1, h2, h3, h4, h5, ↓qdq, q8x, okAs_n]
  have h1' := of_eq_false h1
  have h2' := of_eq_false h2
  have h3' := of_eq_false h3
  have h4' := of_eq_false h4
  have h5' := of_eq_false h5
  obtain ⟨a1, a2⟩ := qvu ha
  have hok : ∀ a ∈ l, CmpOk a.c := fun a h => (a1 a h).1
  refine ⟨l0', l1, by decide, by decide, by decide, by decide, n, rfl, by simp, hn, by omega, ?_⟩
  generalize hpl : q0j 31 [] n = pl
  refine q0q (hz := Nat.zero_le _) (fun m S => ∃ i : Nat, i + m = l.length ∧ S = ⟨tmA 125 [(1, encAs l), (3, .addr (.agg [.int .i64 m0, .int .i64 m1])), (5, .addr (encN n)), (7, .bool pl), (8, .int .i64 i)], []⟩) l.length ⟨0, by omega, ?_⟩ ?_
  · simp only [normR, keepR, Nat.reduceAdd, lkR, Nat.reduceBEq, F_all, List.map_nil]
    rfl
  rintro m S ⟨i, him, rfl⟩
  have hm0 : 0 ≤ m0 ∧ m0 ≤ 31 := ⟨by omega, by omega⟩
  have hm1 : 0 ≤ m1 ∧ m1 ≤ 31 := ⟨by omega, by omega⟩
  rcases Nat.lt_or_ge i l.length with h | h
  · have hlt : ((i : Int) < (l.length : Int)) = True := eq_true (by omega)
    have zi : (0 ≤ (i : Int)) = True := eq_true (by omega)
    have hgi := List.getElem?_eq_getElem h
    have hao := a1 _ (List.getElem_mem h)
    have hsl := slAs l i (by omega)
    generalize l[i] = a at hgi hao
    have e1 : 0 ≤ a.n ∧ a.n ≤ 5 := hao.2.2
    have e2 := qn0 a.n e1.1 e1.2
    have ht2 := qkc a.n e1.1 e1.2
    have hz : (a.n = a.n) = True := eq_true rfl
    have hht := qk2 n e1
    have htk : q0j m0 l n = true → q0j m0 (l.take i) n = true := qo0 i
    have hokt : ∀ a ∈ l.take i, CmpOk a.c := fun a ha => hok a (List.mem_of_mem_take ha)
    have hlt1 : (l.take i).length ≤ 1000000 := by rw [List.length_take]; omega
    cases pl with
    | false =>
      cases hM : q0j m0 l n
      · simp (maxSteps := 400000) only [↓preZ, postZ, coreZ, ↓preU, postU, ↓preA, postA, D_all, F_all, unR, outL, onePV, binS, ↓binS, q03, ↓q03, q01, ↓q01, boxR, q0b, newObj, q05, q00, q06, q09, q0a, St.freeze, q02, q07, q04, BEq.rfl, reduceIte, reduceCtorEq, Nat.reduceLT, Nat.reduceAdd, Nat.reduceSub, Nat.reduceMul, Nat.reduceBEq, Nat.reduceLeDiff, Int.reduceToNat, Int.reduceLE, hQ, hlt, zi, hgi, ↓q2e, ht2, hz, atomZ, nodeZ, nodeW, etaN, atomW, qc9, exN, ↓q6f, q8x, hM]
        exact ⟨e1, by decide, e2, by decide, hm0, by omega, hok, hn, by omega, ⟨by omega, by omega⟩, m - 1, by omega, i + 1, by omega, rfl⟩
      · simp (maxSteps := 400000) only [↓preZ, postZ, coreZ, ↓preU, postU, ↓preA, postA, D_all, F_all, unR, outL, onePV, binS, ↓binS, q03, ↓q03, q01, ↓q01, boxR, q0b, newObj, q05, q00, q06, q09, q0a, St.freeze, q02, q07, q04, BEq.rfl, reduceIte, reduceCtorEq, Nat.reduceLT, Nat.reduceAdd, Nat.reduceSub, Nat.reduceMul, Nat.reduceBEq, Nat.reduceLeDiff, Int.reduceToNat, Int.reduceLE, hQ, hlt, zi, hgi, ↓q2e, ht2, hz, atomZ, nodeZ, nodeW, etaN, atomW, qc9, exN, ↓q6f, q8x, hM, hsl, htk hM]
        exact ⟨e1, by decide, e2, by decide, hm0, by omega, hok, hn, by omega, by decide, hm0, hlt1, hokt, hn, by omega, ⟨by omega, by omega⟩, m - 1, by omega, i + 1, by omega, rfl⟩
    | true =>
      have hno : CmpOk n := ⟨by simp only [q0j, Bool.and_eq_true] at hpl; exact hpl.1.1, by omega⟩
      cases hH : q25 a n <;> rw [hH] at hht
      · cases hM : q0j m0 l n
        · simp (maxSteps := 400000) only [↓preZ, postZ, coreZ, ↓preU, postU, ↓preA, postA, D_all, F_all, unR, outL, onePV, binS, ↓binS, q03, ↓q03, q01, ↓q01, boxR, q0b, newObj, q05, q00, q06, q09, q0a, St.freeze, q02, q07, q04, BEq.rfl, reduceIte, reduceCtorEq, Nat.reduceLT, Nat.reduceAdd, Nat.reduceSub, Nat.reduceMul, Nat.reduceBEq, Nat.reduceLeDiff, Int.reduceToNat, Int.reduceLE, hQ, hlt, zi, hgi, ↓q2e, ht2, hz, atomZ, nodeZ, nodeW, etaN, atomW, qc9, exN, ↓q6f, q8x, hM, ↓q1v, hht, hH]
          exact ⟨e1, by decide, e2, hao.1, hno, hao.1, hno, by decide, hm0, by omega, hok, hn, by omega, ⟨by omega, by omega⟩, m - 1, by omega, i + 1, by omega, rfl⟩
        · simp (maxSteps := 400000) only [↓preZ, postZ, coreZ, ↓preU, postU, ↓preA, postA, D_all, F_all, unR, outL, onePV, binS, ↓binS, q03, ↓q03, q01, ↓q01, boxR, q0b, newObj, q05, q00, q06, q09, q0a, St.freeze, q02, q07, q04, BEq.rfl, reduceIte, reduceCtorEq, Nat.reduceLT, Nat.reduceAdd, Nat.reduceSub, Nat.reduceMul, Nat.reduceBEq, Nat.reduceLeDiff, Int.reduceToNat, Int.reduceLE, hQ, hlt, zi, hgi, ↓q2e, ht2, hz, atomZ, nodeZ, nodeW, etaN, atomW, qc9, exN, ↓q6f, q8x, hM, hsl, htk hM, ↓q1v, hht, hH]
          exact ⟨e1, by decide, e2, hao.1, hno, hao.1, hno, by decide, hm0, by omega, hok, hn, by omega, by decide, hm0, hlt1, hokt, hn, by omega, ⟨by omega, by omega⟩, m - 1, by omega, i + 1, by omega, rfl⟩
      · cases hM : q0j m0 l n
        · simp (maxSteps := 400000) only [↓preZ, postZ, coreZ, ↓preU, postU, ↓preA, postA, D_all, F_all, unR, outL, onePV, binS, ↓binS, q03, ↓q03, q01, ↓q01, boxR, q0b, newObj, q05, q00, q06, q09, q0a, St.freeze, q02, q07, q04, BEq.rfl, reduceIte, reduceCtorEq, Nat.reduceLT, Nat.reduceAdd, Nat.reduceSub, Nat.reduceMul, Nat.reduceBEq, Nat.reduceLeDiff, Int.reduceToNat, Int.reduceLE, hQ, hlt, zi, hgi, ↓q2e, ht2, hz, atomZ, nodeZ, nodeW, etaN, atomW, qc9, exN, ↓q6f, q8x, hM, ↓q1v, hht, hH]
          exact ⟨e1, by decide, e2, hao.1, hno, hao.1, hno, by decide, hm0, by omega, hok, hn, by omega, ⟨by omega, by omega⟩, m - 1, by omega, i + 1, by omega, rfl⟩
        · simp (maxSteps := 400000) only [↓preZ, postZ, coreZ, ↓preU, postU, ↓preA, postA, D_all, F_all, unR, outL, onePV, binS, ↓binS, q03, ↓q03, q01, ↓q01, boxR, q0b, newObj, q05, q00, q06, q09, q0a, St.freeze, q02, q07, q04, BEq.rfl, reduceIte, reduceCtorEq, Nat.reduceLT, Nat.reduceAdd, Nat.reduceSub, Nat.reduceMul, Nat.reduceBEq, Nat.reduceLeDiff, Int.reduceToNat, Int.reduceLE, hQ, hlt, zi, hgi, ↓q2e, ht2, hz, atomZ, nodeZ, nodeW, etaN, atomW, qc9, exN, ↓q6f, q8x, hM, hsl, htk hM, ↓q1v, hht, hH]
          exact ⟨e1, by decide, e2, hao.1, hno, hao.1, hno, by decide, hm0, by omega, hok, hn, by omega, by decide, hm0, hlt1, hokt, hn, by omega, ⟨by omega, by omega⟩, m - 1, by omega, i + 1, by omega, rfl⟩
  · have hlt : ((i : Int) < (l.length : Int)) = False := eq_false (by omega)
    have hor := mem_or hm0 hm1 l n
    have hmk := qms hm0 hm1
    obtain ⟨o1, o2, _⟩ := hmk
    generalize hB : bitsI .or .i64 m0 m1 = B at *
    cases hM : q0j m0 l n <;> cases hM1 : q0j m1 l n <;> rw [hM, hM1] at hor
    all_goals
      simp (maxSteps := 400000) only [↓preZ, postZ, coreZ, ↓preU, postU, ↓preA, postA, D_all, F_all, unR, outL, onePV, binS, ↓binS, q03, ↓q03, q01, ↓q01, boxR, q0b, newObj, q05, q00, q06, q09, q0a, St.freeze, q02, q07, q04, BEq.rfl, reduceIte, reduceCtorEq, Nat.reduceLT, Nat.reduceAdd, Nat.reduceSub, Nat.reduceMul, Nat.reduceBEq, Nat.reduceLeDiff, Int.reduceToNat, Int.reduceLE, hQ, hlt, ↓q6f, q8x, exN, hM, hM1, ↓q1s, ↓orR, hB, hor]
      repeat' (first | omega | exact hok | exact hn | exact (by decide) | refine ⟨?_, ?_⟩)
end Lp

/-! LpTie -/

namespace Lp
open Go Go.Proofs Go.Shelf Go.RowKit Go.Lib Go.ChangeAt
set_option maxRecDepth 100000
set_option maxHeartbeats 2000000
def laidL : List (String × DataW Unit) := [("unicode/utf8.acceptRanges", Lib.acceptData), ("unicode/utf8.first", Lib.firstData)]
noncomputable def laidWorld (os : Os) : World :=
  let w0 := World.holding Tryz.prog os ⟨#[], #[], []⟩
  let put (h : Array Go.Obj) (g : Nat) (cs : Array Value) : Array Go.Obj := h.modify g fun
    | .cells _ t frozen => .cells cs t frozen
    | o => o
  let h1 := put w0.heap 0 (Lib.firstTab.map fun z => Value.int .u8 z).toArray
  let h2 := put h1 1 ((List.range 16).flatMap fun i => [Value.int .u8 (Lib.accLo i), Value.int .u8 (Lib.accHi i)]).toArray
  { w0 with heap := h2 }
theorem laid_met (os : Os) (args : Array Value) : laidMet Tryz.prog laidL ((laidWorld os).forCall (fun _ _ => 0) ⟨#[], args, []⟩).memory :=
  (LaidIn.of_run (l := laidL) [1, 0] 8 (by kernel_rfl) (by kernel_rfl) (by kernel_rfl) (by kernel_rfl)).met
theorem qmt {w W : World} (h : w.heap = W.heap) (hT : Lib.Utf8Tabs 0 1 W) : Lib.Utf8Tabs 0 1 w := by
  have e : ∀ b : Nat, w.heap[b]? = W.heap[b]? := fun b => by rw [h]
  refine ⟨fun c hc => ?_, fun i hi => ⟨?_, ?_⟩⟩
  · rw [q46 (e 0)]; exact hT.1 c hc
  · rw [q46 (e 1)]; exact (hT.2 i hi).1
  · rw [q46 (e 1)]; exact (hT.2 i hi).2
theorem glob_laid {W : World} (h : laidMetH Tryz.prog laidL W) : glob.holds W.heap := by
  have hT : Lib.Utf8Tabs 0 1 W :=
    utf8Tabs_of_readsT (U8Types.of196 Tryz.lays196) ⟨by kernel_rfl, by kernel_rfl, by kernel_rfl, by kernel_rfl, by kernel_rfl, by kernel_rfl, by kernel_rfl⟩ (Lib.laidMet.reads h (.tail _ (.head _))) (Lib.laidMet.reads h (.head _))
  intro w hw
  exact qmt hw hT
structure BigT (l : List (List UInt8)) : Prop where
  len : l.length ≤ 1152921504606846976
  all : ∀ s ∈ l, s.length ≤ 4611686018427387904
end Lp

/-! LpRdA -/

namespace Lp
open Go Go.Proofs
set_option maxHeartbeats 2000000
set_option maxRecDepth 20000
theorem u_atom : ∃ fs : Array Field, Tryz.prog.underlying t_api_Atom = some (.struct fs) ∧ fs.toList.map (fun f => (f.offset, f.type)) = [(0, t_int), (1, t_api_Node)] :=
  ⟨Tryz.prog.fieldsOf t_api_Atom, by kernel_rfl, by kernel_rfl⟩
instance : Inhabited Atm := ⟨⟨0, ⟨0, 0, [], [], false, 0⟩⟩⟩
structure BigA (a : Atm) : Prop where
  n : inR .i64 a.n
  c : BigN a.c
theorem qvv : Rd Tryz.prog t_api_Atom encA BigA := by
  intro H eh w fuel cs x h hw
  obtain ⟨fs, ht, hfs⟩ := u_atom
  obtain ⟨hl, hp⟩ := q8q ht h hw
  rw [hfs] at hp
  have hc : Tryz.prog.cellsOf t_api_Atom = 7 := by kernel_rfl
  rw [hc] at hl
  match cs, hl with
  | [v0, v1, v2, v3, v4, v5, v6], _ =>
    obtain ⟨n0, y0, a0, b0⟩ := hp 0 0 t_int rfl
    obtain ⟨n1, y1, a1, b1⟩ := hp 1 1 t_api_Node rfl
    have hcd : Tryz.prog.cellsOf t_api_Node = 6 := by kernel_rfl
    rw [hcd] at a1
    rw [q4y c_int (v := v0) rfl] at a0
    obtain ⟨k, g0, r0⟩ := Rd.int u_int eh w n0 _ _ a0 b0
    obtain ⟨c, g1, r1⟩ := qmq eh w n1 _ _ a1 b1
    refine ⟨⟨k, c⟩, ⟨g0, g1⟩, ?_⟩
    exact repL_cons (r0.2 0 _ _ rfl rfl) (repL_cons (r1.2 0 _ v1 rfl rfl) (repL_cons (r1.2 1 _ v2 rfl rfl) (repL_cons (r1.2 2 _ v3 rfl rfl) (repL_cons (r1.2 3 _ v4 rfl rfl) (repL_cons (r1.2 4 _ v5 rfl rfl) (repL_cons (r1.2 5 _ v6 rfl rfl) repL_nil))))))
theorem BigN.sm {n : Nd} (h : BigN n) : NdSm n := by
  have h1 := h.name
  have h2 := h.s
  rw [reachBytes] at h1 h2
  exact ⟨by omega, by omega⟩
theorem u_atoms : Tryz.prog.underlying t_L_api_Atom = some (.slice t_api_Atom) := by kernel_rfl
theorem rd_atoms : Rd Tryz.prog t_L_api_Atom encAs BigAs := by
  intro H eh w fuel cs x h hw
  obtain ⟨v, ⟨h1, h2⟩, h3⟩ := Rd.slice (sz := 7) u_atoms qvv (by kernel_rfl) (by decide) (fun _ => rfl) eh w fuel cs x h hw
  have hb : Tryz.prog.bytesOf t_api_Atom = 72 := by kernel_rfl
  rw [hb, reachBytes] at h1
  exact ⟨v, ⟨by omega, fun a ha => (h2 a ha).c.sm⟩, h3⟩
section
variable {H : Type} {eh : TypeId × Value → H} {w : World} {base : Nat} {v : Value} {d : DataW H} {p : List MemPlace}
theorem qmu {t : TypeId} {α : Type} {enc : α → PV} {good : α → Prop} (hu : ∃ fs, Tryz.prog.underlying t = some (.struct fs)) (hr : Rd Tryz.prog t enc good) (h1 : ∀ a, enc a = .agg (enc a).cells)
    (hv : Value.okWide Tryz.prog w .any base t v) (h : DataW.Trod eh Tryz.prog w 0 (fun _ => true) true t v d p) (hw : ∀ n ∈ DataW.weights Tryz.prog t d, n ≤ reachBytes) : ∃ a : α, good a ∧ Rep w (fun _ => True) (enc a) v := by
  obtain ⟨fs, hu⟩ := hu
  obtain ⟨⟨cs⟩, rfl, _⟩ := Go.WideShapes.okWide_struct hu hv
  obtain ⟨fuel, h⟩ := h
  obtain ⟨a, g, r⟩ := hr eh w fuel _ _ h hw
  refine ⟨a, g, ?_⟩
  rw [h1 a]
  exact .agg _ _ r.1 r.2
theorem rd_N (hv : Value.okWide Tryz.prog w .any base t_api_Node v) (h : DataW.Trod eh Tryz.prog w 0 (fun _ => true) true t_api_Node v d p) (hw : ∀ n ∈ DataW.weights Tryz.prog t_api_Node d, n ≤ reachBytes) : ∃ a, NdSm a ∧ Rep w (fun _ => True) (encN a) v := by
  obtain ⟨a, g, r⟩ := qmu (by obtain ⟨fs, h, _⟩ := qom; exact ⟨fs, h⟩) qmq (fun _ => rfl) hv h hw
  exact ⟨a, g.sm, r⟩
end
end Lp

/-! LpRdI -/

namespace Lp
open Go Go.Proofs
set_option maxHeartbeats 2000000
set_option maxRecDepth 20000
theorem u_n2 : Tryz.prog.underlying t__2_int = some (.array 2 t_int) := by kernel_rfl
theorem rd_I2 {H : Type} {eh : TypeId × Value → H} {w : World} {base : Nat} {v : Value} {d : DataW H} {p : List MemPlace}
    (hv : Value.okWide Tryz.prog w .any base t__2_int v) (h : DataW.Trod eh Tryz.prog w 0 (fun _ => true) true t__2_int v d p) (hw : ∀ n ∈ DataW.weights Tryz.prog t__2_int d, n ≤ reachBytes) :
    ∃ a, BigI2 a ∧ Rep w (fun _ => True) (encI2 a) v := by
  have hv2 : ∃ cs, v = .agg cs ∧ cs.size = Tryz.prog.cellsOf t__2_int := by
    simp only [Value.okWide, u_n2] at hv
    obtain ⟨cs, h1, h2, _⟩ := hv
    exact ⟨cs, h1, h2⟩
  obtain ⟨⟨cs⟩, rfl, hl⟩ := hv2
  obtain ⟨fuel, h⟩ := h
  have hc : Tryz.prog.cellsOf t__2_int = 2 := by kernel_rfl
  rw [hc] at hl
  simp only [List.size_toArray] at hl
  obtain ⟨v0, v1, rfl⟩ : ∃ v0 v1, cs = [v0, v1] := by
    clear h
    match cs, hl with
    | [v0, v1], _ => exact ⟨v0, v1, rfl⟩
  · obtain ⟨xs, m, _, he, _, hxl, hf⟩ := DataW.trod_array u_n2 h
    have h0 := hf 0 (by omega)
    have h1 := hf 1 (by omega)
    rw [c_int] at h0 h1
    match xs, hxl with
    | [y0, y1], _ =>
      have e1 : d = .agg [y0.1, y1.1] := congrArg Prod.fst he
      subst e1
      have w0 : ∀ n ∈ DataW.weights Tryz.prog t_int y0.1, n ≤ reachBytes := fun n hn => hw n (by rw [DataW.weights, u_n2]; simp [DataW.weightsAll, hn])
      have w1 : ∀ n ∈ DataW.weights Tryz.prog t_int y1.1, n ≤ reachBytes := fun n hn => hw n (by rw [DataW.weights, u_n2]; simp [DataW.weightsAll, hn])
      obtain ⟨s, g0, r0⟩ := Rd.int u_int eh w m [v0] y0 h0 w0
      obtain ⟨t, g1, r1⟩ := Rd.int u_int eh w m [v1] y1 h1 w1
      refine ⟨(s, t), ⟨by simpa [inR] using g0, by simpa [inR] using g1⟩, ?_⟩
      have k0 : Rep w (fun _ => True) (.int .i64 s) v0 := r0.2 0 _ _ rfl rfl
      have k1 : Rep w (fun _ => True) (.int .i64 t) v1 := r1.2 0 _ _ rfl rfl
      exact .agg _ _ rfl (fun i p v h1 h2 => by
        match i with
        | 0 => simp at h1 h2; subst h1; subst h2; exact k0
        | 1 => simp at h1 h2; subst h1; subst h2; exact k1
        | i + 2 => simp at h1)
end Lp

/-! LpJn -/

namespace Lp
open Go
theorem and_t {a b : Bool} (ha : a = true) (hb : b = true) : (a && b) = true := by rw [ha, hb]; rfl
theorem joined_mk {P : Program} {f : FuncId} {fn : Func} {s : ChangeSpec} {c : OpenClaim}
    (h0 : (c.wf (OpenSpec.ofChange s)) = true)
    (h1 : (laidOutB P) = true)
    (h2 : (mapsRowed P) = true)
    (h3 : (fn.params.all (P.readableRec ·)) = true)
    (h4 : (namedTie P c.named s.vars) = true)
    (h5 : ((c.stops == [])) = true)
    (h6 : ((P.stops == [])) = true)
    (h7 : ((c.knobs == [])) = true)
    (h8 : ((P.stopKnobs == [])) = true)
    (h9 : ((c.inPlace == P.inPlace f)) = true)
    (h10 : ((c.unfollowed == P.unfollowed f)) = true)
    (h11 : ((c.recurses == P.recurses f)) = true)
    (h12 : ((c.named == P.varsNamed f)) = true)
    (h13 : ((c.maps == (fn.params.toList ++ s.plain.varTypes P).any (P.mapsRec ·))) = true)
    (h14 : ((c.ifaces == (fn.params.toList ++ s.plain.varTypes P).any (P.ifacesRec ·))) = true)
    (h15 : ((c.mapsOut == P.mapsAmong fn.resultTypes.toList)) = true)
    (h16 : ((c.loops == (fn.params.toList ++ s.plain.varTypes P).any (P.loopsFrom ·))) = true)
    (h17 : ((c.wideKeys == (fn.params.toList ++ s.plain.varTypes P ++ fn.resultTypes.toList).any (P.wideKeysFrom ·))) = true)
    (h18 : (s.vars.all (P.varReadable ·)) = true)
    (h19 : (fn.resultTypes.all (fun t => P.readableRec t && decide (t < P.types.size))) = true)
    (h20 : ((c.ifacesOut == fn.resultTypes.toList.any (P.ifacesRec ·))) = true)
    (h21 : ((c.loopsOut == fn.resultTypes.toList.any (P.loopsFrom ·))) = true)
    (h22 : ((c.plainKeys == P.plainKeys)) = true)
    (h23 : (c.shortTexts.isNone) = true)
    (h24 : (P.stopsHeard) = true)
    (h25 : (P.mayEnter) = true)
    (h26 : ((c.lifted == P.liftsFinal)) = true)
    (h27 : ((P.make == some c.make)) = true)
    (h28 : ((c.kinds == (if c.domain.isEmpty then [] else fn.params.toList.map fun t => match P.underlying t with | some (.int k) => some k | _ => none))) = true)
    (h29 : ((c.pinned == c.pinnedBy)) = true)
    (h30 : ((c.veiled == (fn.params.toList ++ s.plain.varTypes P ++ fn.resultTypes.toList).any (P.veiledRec ·))) = true)
    (h31 : (c.veiledFits P fn.params.toList (fn.params.toList ++ s.plain.varTypes P ++ fn.resultTypes.toList)) = true) : joinedFacts P f fn s c = true := by
  unfold joinedFacts
  exact (and_t (and_t (and_t (and_t (and_t (and_t (and_t (and_t (and_t (and_t (and_t (and_t (and_t (and_t (and_t (and_t (and_t (and_t (and_t (and_t (and_t (and_t (and_t (and_t (and_t (and_t (and_t (and_t (and_t (and_t (and_t h0 h1) h2) h3) h4) h5) h6) h7) h8) h9) h10) h11) h12) h13) h14) h15) h16) h17) h18) h19) h20) h21) h22) h23) h24) h25) h26) h27) h28) h29) h30) h31)
end Lp
