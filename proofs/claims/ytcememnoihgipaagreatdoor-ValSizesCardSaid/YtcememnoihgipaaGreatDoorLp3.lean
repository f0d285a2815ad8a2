/-
  Part 3 of what the statement rests on: LpV2, LpV3, LpU, LpI1, LpC1, LpZ, LpEq, LpU2, LpW1, LpW2, LpW3, LpW4, LpW8, LpW14, LpW15, LpW16, LpW17. No condition.
-/
import Derived.Test.YtcememnoihgipaaGreatDoorLp2
import Derived.Test.YtcememnoihgipaaGreatDoorRows
import Derived.Laws.StructEq

set_option linter.all false

/-! LpV2 -/

namespace Lp
open Go
theorem q52 : ∀ (k : Nat) (v w : Vl) (ps : List Vl), parts k v = some ps → parts k (v ++ w) = some ps
  | 0, _, _, _, h => h
  | k + 1, v, w, ps, h => by
    obtain ⟨c, qs, h1, rfl, h3⟩ := q3z h
    have hc := q4b _ _ _ h1
    have h4 := q52 k _ w qs h3
    simp only [parts, q4d v w _ _ h1]
    rw [List.drop_append_of_le_length hc.2, h4, List.take_append_of_le_length hc.2]; rfl
def Good (v : Vl) : Prop := ∀ i n r, v.drop i = n :: r → q0m n = true ∧ ∃ ps, parts n.many.toNat r = some ps ∧ risB n.kind ps = true
theorem q6y : ∀ v : Vl, goodB v = true ↔ Good v
  | [] => ⟨fun _ i n r h => (by simp at h), fun _ => rfl⟩
  | m :: v => by
    constructor
    · intro h i n r hd
      simp only [goodB, Bool.and_eq_true] at h
      obtain ⟨⟨h1, h2⟩, h3⟩ := h
      cases i with
      | zero =>
        simp only [List.drop_zero, List.cons.injEq] at hd
        obtain ⟨rfl, rfl⟩ := hd
        refine ⟨h1, ?_⟩
        cases hp : parts m.many.toNat v with
        | none => rw [hp] at h2; cases h2
        | some ps => rw [hp] at h2; exact ⟨ps, rfl, h2⟩
      | succ i => exact (q6y v).1 h3 i n r (by simpa using hd)
    · intro h
      obtain ⟨h1, ps, h2, h3⟩ := h 0 m v rfl
      have h4 : goodB v = true := (q6y v).2 fun i n r hd => h (i + 1) n r (by simpa using hd)
      simp [goodB, h1, h2, h3, h4]
structure Rt (v : Vl) : Prop where
  one : One v
  name : nameOf v = []
  good : Good v
theorem q6z {v : Vl} (h : q0x v = true) : Rt v := by
  simp only [q0x, Bool.and_eq_true, beq_iff_eq] at h
  obtain ⟨⟨⟨_, h2⟩, h3⟩, h4⟩ := h
  exact ⟨q8v _ _ _ _ h3, h2, (q6y v).1 h4⟩
theorem drop_app {p w s : Vl} {m : Nd} {i : Nat} (h : p.drop i = m :: s) : (p ++ w).drop i = m :: (s ++ w) := by
  have hi : i ≤ p.length := by
    rcases Nat.le_total i p.length with h' | h'
    · exact h'
    · rw [List.drop_eq_nil_of_le h'] at h; cases h
  rw [List.drop_append_of_le_length hi, h]; rfl
theorem Good.pre {p w : Vl} (ho : One p) (h : Good (p ++ w)) : Good p := by
  intro i m s hd
  obtain ⟨h1, ps, h2, h3⟩ := h i m (s ++ w) (drop_app hd)
  have hi : i < p.length := by
    rcases Nat.lt_or_ge i p.length with h' | h'
    · exact h'
    · rw [List.drop_eq_nil_of_le h'] at hd; cases hd
  obtain ⟨_, qs, hq⟩ := ho.partsAt hi
  have hd' := hd
  rw [List.drop_eq_getElem_cons hi] at hd'
  obtain ⟨e1, e2⟩ := List.cons.inj hd'
  rw [e1, e2] at hq
  have := q52 _ _ w _ hq
  rw [h2] at this
  cases this
  exact ⟨h1, ps, hq, h3⟩
theorem Good.suf {p w : Vl} (h : Good (p ++ w)) : Good w := by
  intro i m s hd
  exact h (p.length + i) m s (by rw [← List.drop_drop, List.drop_left]; exact hd)
theorem Good.of_flatten : ∀ (ps : List Vl), (∀ p ∈ ps, One p) → Good ps.flatten → ∀ p ∈ ps, Good p
  | [], _, _, p, hp => by cases hp
  | q :: qs, ho, hg, p, hp => by
    rw [List.flatten_cons] at hg
    rcases List.mem_cons.1 hp with rfl | hp
    · exact hg.pre (ho _ (List.mem_cons_self ..))
    · exact Good.of_flatten qs (fun x hx => ho x (List.mem_cons_of_mem _ hx)) hg.suf p hp
theorem Good.clr {v : Vl} (h : Good v) : Good (clr v) := by
  cases v with
  | nil => exact h
  | cons n r =>
    intro i m s hd
    cases i with
    | zero =>
      simp only [Lp.clr, List.drop_zero, List.cons.injEq] at hd
      obtain ⟨rfl, rfl⟩ := hd
      exact h 0 n r rfl
    | succ i => exact h (i + 1) m s hd
theorem clr_name (v : Vl) : nameOf (clr v) = [] := by cases v <;> rfl
theorem Rt.parts {n : Nd} {r : Vl} (h : Rt (n :: r)) : q0m n = true ∧ 0 ≤ n.many ∧ ∃ ps, parts n.many.toNat r = some ps ∧ ps.flatten = r ∧ risB n.kind ps = true ∧ (∀ p ∈ ps, One p) ∧ ∀ p ∈ ps, Rt (Lp.clr p) := by
  obtain ⟨hm, ps, h1, h2, h3⟩ := h.one.parts
  obtain ⟨hp, qs, hq, hr⟩ := h.good 0 n r rfl
  rw [h1] at hq
  cases hq
  have hg : Good ps.flatten := by rw [h2]; exact (show Good ([n] ++ r) from h.good).suf
  exact ⟨hp, hm, ps, h1, h2, hr, h3, fun p hpm => ⟨(h3 p hpm).clr, clr_name p, (Good.of_flatten ps h3 hg p hpm).clr⟩⟩
theorem q21 {n : Nd} {r : Vl} {ps : List Vl} (h : parts n.many.toNat r = some ps) : q4c n r = ps.map clr ∧ labsOf n r = ps.map nameOf := by
  simp [q4c, labsOf, h]
theorem risB_arr : ∀ (ps : List Vl), risB 5 ps = true → ps.map nameOf = ps.map fun _ => []
  | [], _ => rfl
  | p :: ps, h => by
    simp only [risB, Bool.and_eq_true] at h
    obtain ⟨⟨⟨h1, _⟩, _⟩, h4⟩ := h
    have : nameOf p = [] := by simpa using h1
    simp only [List.map_cons, this, risB_arr ps h4]
theorem q1n {v : Vl} (h : nameOf v = []) (hne : v ≠ []) : ∃ n r, v = n :: r ∧ n.name = [] := by
  cases v with
  | nil => exact absurd rfl hne
  | cons n r => exact ⟨n, r, rfl, h⟩
end Lp

/-! LpV3 -/

namespace Lp
open Go
structure Ordr {α : Type} (P : α → Prop) (f : α → α → Int) : Prop where
  rng : ∀ a b, P a → P b → -1 ≤ f a b ∧ f a b ≤ 1
  anti : ∀ a b, P a → P b → f b a = - f a b
  zero : ∀ a b, P a → P b → (f a b = 0 ↔ a = b)
  trans : ∀ a b c, P a → P b → P c → f a b ≤ 0 → f b c ≤ 0 → f a c ≤ 0
theorem q40 : ∀ x : List UInt8, Op.bytesLess x x = false
  | [] => rfl
  | a :: x => by simp [Op.bytesLess, q40 x]
theorem q3e : ∀ x y z : List UInt8, Op.bytesLess x y = true → Op.bytesLess y z = true → Op.bytesLess x z = true
  | x, [], z, h, _ => by cases x <;> simp [Op.bytesLess] at h
  | x, b :: y, [], _, h => by simp [Op.bytesLess] at h
  | [], b :: y, c :: z, _, _ => rfl
  | a :: x, b :: y, c :: z, h1, h2 => by
    simp only [Op.bytesLess, Bool.or_eq_true, Bool.and_eq_true, decide_eq_true_eq, beq_iff_eq] at *
    rcases h1 with h1 | ⟨rfl, h1⟩
    · rcases h2 with h2 | ⟨rfl, h2⟩
      · exact .inl (UInt8.lt_trans h1 h2)
      · exact .inl h1
    · rcases h2 with h2 | ⟨rfl, h2⟩
      · exact .inl h2
      · exact .inr ⟨rfl, q3e x y z h1 h2⟩
theorem bl_tri : ∀ x y : List UInt8, Op.bytesLess x y = true ∨ x = y ∨ Op.bytesLess y x = true
  | [], [] => .inr (.inl rfl)
  | [], _ :: _ => .inl rfl
  | _ :: _, [] => .inr (.inr rfl)
  | a :: x, b :: y => by
    simp only [Op.bytesLess, Bool.or_eq_true, Bool.and_eq_true, decide_eq_true_eq, beq_iff_eq, List.cons.injEq]
    have tri : a < b ∨ a = b ∨ b < a := by
      rcases Nat.lt_trichotomy a.toNat b.toNat with h | h | h
      · exact .inl h
      · exact .inr (.inl (UInt8.toNat_inj.1 h))
      · exact .inr (.inr h)
    rcases tri with h | rfl | h
    · exact .inl (.inl h)
    · rcases bl_tri x y with h | rfl | h
      · exact .inl (.inr ⟨rfl, h⟩)
      · exact .inr (.inl ⟨rfl, rfl⟩)
      · exact .inr (.inr (.inr ⟨rfl, h⟩))
    · exact .inr (.inr (.inl h))
theorem bl_asymm (x y : List UInt8) (h : Op.bytesLess x y = true) : Op.bytesLess y x = false := by
  cases h' : Op.bytesLess y x with
  | false => rfl
  | true => have := q3e x y x h h'; rw [q40] at this; cases this
theorem Ordr.refl {α : Type} {P : α → Prop} {f : α → α → Int} (h : Ordr P f) (a : α) (ha : P a) : f a a = 0 := (h.zero a a ha ha).2 rfl
theorem numB_many {n : Nd} (h : numB n = true) : n.many = 0 := by
  simp only [numB, Bool.and_eq_true, beq_iff_eq] at h
  exact h.1.1.1.1.1.1
theorem q4f {n : Nd} {r : Vl} (h : Rt (n :: r)) : ∀ x ∈ q4c n r, x.length ≤ r.length ∧ Rt x := by
  obtain ⟨_, _, ps, h3, h4, h5, h6, h7⟩ := h.parts
  intro x hx
  rw [(q21 h3).1] at hx
  obtain ⟨p, hp, rfl⟩ := List.mem_map.1 hx
  have := q51 hp
  rw [h4] at this
  exact ⟨by rw [q5i]; omega, h7 p hp⟩
end Lp

/-! LpU -/

namespace Lp
open Go
def encN (n : Nd) : PV := .agg [.int .i64 n.kind, .int .i64 n.many, .str n.name, .str n.s, .bool n.neg, .int .i64 n.e]
def encV (v : Vl) : PV := .sl 6 (v.map encN) none
end Lp

/-! LpI1 -/

set_option maxRecDepth 100000
namespace Lp
open Go Go.Proofs
def t_int64 : TypeId := 2
def t_int : TypeId := 3
def t_bool : TypeId := 4
def t_uint8 : TypeId := 5
def t_abi_BoundsErrorCode : TypeId := 6
def t_string : TypeId := 9
def t_uintptr : TypeId := 12
def t_P_runtime_PanicNilError : TypeId := 16
def t_P_abi_Type : TypeId := 17
def t_api_Node : TypeId := 24
def t_api_Atom : TypeId := 27
def t_api_Val : TypeId := 36
def t_L_api_Val : TypeId := 48
def t_L_string : TypeId := 50
def t_api_Type : TypeId := 55
def t_api_Path : TypeId := 57
def t_api_Errno : TypeId := 60
def t_api_Ty : TypeId := 73
def t_L_int : TypeId := 74
def t_api_Edit : TypeId := 94
def t_api_Step : TypeId := 97
def t_map_string_api_Val : TypeId := 163
def t_iter_Seq_string_ : TypeId := 166
def t_val_open : TypeId := 169
def t_L_val_open : TypeId := 170
def t_func_val_open__bool : TypeId := 173
def t_uint : TypeId := 178
def t_P_strings_Builder : TypeId := 205
def t_L_uint8 : TypeId := 206
def t_utf8_acceptRange : TypeId := 221
def t_func_int32__bool : TypeId := 234
def t_uint32 : TypeId := 242
def t_P_uint8 : TypeId := 248
def t__0_P_runtime_PanicNilError : TypeId := 313
def t_abi_TFlag : TypeId := 316
def t_abi_Kind : TypeId := 317
def t_func_unsafe_Pointer__unsafe_Pointer__bool : TypeId := 318
def t_abi_NameOff : TypeId := 319
def t_abi_TypeOff : TypeId := 320
def f_loupelaw02_ValSizes : FuncId := 7
def f_louperef02_Few : FuncId := 32
def f_loupelaw02_alive : FuncId := 33
def f_val_Field : FuncId := 34
def f_louperef02_Utf : FuncId := 37
def f_val_With : FuncId := 38
def f_val_Without : FuncId := 40
def f_louperef02_Right : FuncId := 42
def f_louperef02_All : FuncId := 43
def f_val_Names : FuncId := 44
def f_val_List : FuncId := 45
def f_val_Object : FuncId := 91
def f_val_Same : FuncId := 92
def f_val_Depth : FuncId := 93
def f_val_Right : FuncId := 94
def f_val_each : FuncId := 95
def f_louperef02_Rune : FuncId := 98
def f_val_Parts : FuncId := 99
def f_slices_BinarySearch_L_string_string_ : FuncId := 100
def f_val_laid : FuncId := 101
def f_slices_Insert_L_string_string_ : FuncId := 102
def f_slices_Insert_L_api_Val_api_Val_ : FuncId := 103
def f_louperef02_Next : FuncId := 105
def f_louperef02_plain : FuncId := 106
def f_louperef02_rising : FuncId := 107
def f_slices_Concat_api_Val_api_Node_ : FuncId := 108
def f_unicode_utf8_ValidString : FuncId := 166
def f_slices_Sorted_string_ : FuncId := 167
def f_slices_Values_L_string_string_ : FuncId := 168
def f_slices_Equal_api_Val_api_Node_ : FuncId := 169
def f_val_isPlain : FuncId := 170
def f_slices_ContainsFunc_L_val_open_val_open_ : FuncId := 171
def f_val_Right_1 : FuncId := 172
def f_val_each_1 : FuncId := 173
def f_val_behind : FuncId := 174
def f_slices_Clone_api_Val_api_Node_ : FuncId := 175
def f_louperef02_cont : FuncId := 177
def f_cmp_Less_string_ : FuncId := 178
def f_slices_isNaN_string_ : FuncId := 179
def f_louperef01_Right : FuncId := 184
def f_slices_Grow_api_Val_api_Node_ : FuncId := 185
def f_num_isFigures : FuncId := 207
def f_num_isPower : FuncId := 210
def f_cmp_isNaN_string_ : FuncId := 220
def f_slices_Collect_string_ : FuncId := 223
def f_slices_Sort_L_string_string_ : FuncId := 224
def f_slices_Values_L_string_string__1 : FuncId := 225
def f_num_Right : FuncId := 226
def f_slices_IndexFunc_L_val_open_val_open_ : FuncId := 227
def f_louperef01_figures : FuncId := 230
def f_strings_TrimFunc : FuncId := 244
def f_num_isFigure : FuncId := 245
def f_slices_AppendSeq_L_string_string_ : FuncId := 258
def f_strings_Trim : FuncId := 261
def tabD : List TInfo := [
  ⟨.other, 1, 0, .tuple ⟨[]⟩⟩,
  ⟨.other, 1, 8, .nilFunc⟩,
  ⟨(.int .i64), 1, 8, .int .i64 0⟩,
  ⟨(.int .i64), 1, 8, .int .i64 0⟩,
  ⟨.bool, 1, 1, .bool false⟩,
  ⟨(.int .u8), 1, 1, .int .u8 0⟩,
  ⟨(.int .u8), 1, 1, .int .u8 0⟩,
  ⟨(.struct [(0, t_int64), (1, t_int), (2, t_bool), (3, t_abi_BoundsErrorCode)]), 4, 24, .agg ⟨[.int .i64 0, .int .i64 0, .bool false, .int .u8 0]⟩⟩,
  ⟨(.struct [(0, t_int64), (1, t_int), (2, t_bool), (3, t_abi_BoundsErrorCode)]), 4, 24, .agg ⟨[.int .i64 0, .int .i64 0, .bool false, .int .u8 0]⟩⟩,
  ⟨.str, 1, 16, .string ⟨⟨[]⟩⟩⟩,
  ⟨.str, 1, 16, .string ⟨⟨[]⟩⟩⟩,
  ⟨.str, 1, 16, .string ⟨⟨[]⟩⟩⟩,
  ⟨(.int .u64), 1, 8, .int .u64 0⟩,
  ⟨(.struct [(0, t_string), (1, t_uintptr)]), 2, 24, .agg ⟨[.string ⟨⟨[]⟩⟩, .int .u64 0]⟩⟩,
  ⟨(.struct [(0, t_string), (1, t_uintptr)]), 2, 24, .agg ⟨[.string ⟨⟨[]⟩⟩, .int .u64 0]⟩⟩,
  ⟨.other, 1, 8, .pointer none⟩,
  ⟨.other, 1, 8, .pointer none⟩,
  ⟨.other, 1, 8, .pointer none⟩,
  ⟨(.struct [(0, t_P_abi_Type)]), 1, 8, .agg ⟨[.pointer none]⟩⟩,
  ⟨(.struct [(0, t_P_abi_Type)]), 1, 8, .agg ⟨[.pointer none]⟩⟩,
  ⟨.other, 1, 16, .nilIface⟩,
  ⟨(.int .i32), 1, 4, .int .i32 0⟩,
  ⟨(.slice t_api_Atom), 1, 24, .slice none 0 0⟩,
  ⟨(.struct [(0, t_int), (1, t_int), (2, t_string), (3, t_string), (4, t_bool), (5, t_int)]), 6, 64, .agg ⟨[.int .i64 0, .int .i64 0, .string ⟨⟨[]⟩⟩, .string ⟨⟨[]⟩⟩, .bool false, .int .i64 0]⟩⟩,
  ⟨(.struct [(0, t_int), (1, t_int), (2, t_string), (3, t_string), (4, t_bool), (5, t_int)]), 6, 64, .agg ⟨[.int .i64 0, .int .i64 0, .string ⟨⟨[]⟩⟩, .string ⟨⟨[]⟩⟩, .bool false, .int .i64 0]⟩⟩,
  ⟨.other, 1, 8, .nilFunc⟩,
  ⟨(.struct [(0, t_int), (1, t_api_Node)]), 7, 72, .agg ⟨[.int .i64 0, .int .i64 0, .int .i64 0, .string ⟨⟨[]⟩⟩, .string ⟨⟨[]⟩⟩, .bool false, .int .i64 0]⟩⟩,
  ⟨(.struct [(0, t_int), (1, t_api_Node)]), 7, 72, .agg ⟨[.int .i64 0, .int .i64 0, .int .i64 0, .string ⟨⟨[]⟩⟩, .string ⟨⟨[]⟩⟩, .bool false, .int .i64 0]⟩⟩,
  ⟨.other, 1, 8, .nilFunc⟩,
  ⟨.other, 1, 8, .nilFunc⟩,
  ⟨.other, 1, 8, .nilFunc⟩,
  ⟨.other, 1, 8, .nilFunc⟩,
  ⟨.other, 1, 8, .nilFunc⟩,
  ⟨(.array 2 t_int), 2, 16, .agg ⟨[.int .i64 0, .int .i64 0]⟩⟩,
  ⟨.other, 1, 8, .nilFunc⟩,
  ⟨(.slice t_api_Node), 1, 24, .slice none 0 0⟩,
  ⟨(.slice t_api_Node), 1, 24, .slice none 0 0⟩,
  ⟨.other, 1, 8, .nilFunc⟩,
  ⟨.other, 1, 0, .tuple ⟨[.slice none 0 0, .bool false]⟩⟩,
  ⟨.other, 1, 8, .nilFunc⟩,
  ⟨.other, 1, 8, .nilFunc⟩,
  ⟨.other, 1, 8, .nilFunc⟩,
  ⟨.other, 1, 8, .nilFunc⟩,
  ⟨.other, 1, 8, .nilFunc⟩,
  ⟨.other, 1, 8, .nilFunc⟩,
  ⟨(.array 2 t_string), 2, 32, .agg ⟨[.string ⟨⟨[]⟩⟩, .string ⟨⟨[]⟩⟩]⟩⟩,
  ⟨.other, 1, 8, .nilFunc⟩,
  ⟨.other, 1, 8, .nilFunc⟩,
  ⟨(.slice t_api_Val), 1, 24, .slice none 0 0⟩,
  ⟨.other, 1, 8, .nilFunc⟩,
  ⟨(.slice t_string), 1, 24, .slice none 0 0⟩,
  ⟨.other, 1, 8, .nilFunc⟩,
  ⟨.other, 1, 8, .nilFunc⟩,
  ⟨.other, 1, 8, .nilFunc⟩,
  ⟨(.slice t_api_Ty), 1, 24, .slice none 0 0⟩,
  ⟨(.slice t_api_Ty), 1, 24, .slice none 0 0⟩,
  ⟨(.slice t_api_Step), 1, 24, .slice none 0 0⟩,
  ⟨(.slice t_api_Step), 1, 24, .slice none 0 0⟩,
  ⟨.other, 1, 8, .nilFunc⟩,
  ⟨.other, 1, 8, .nilFunc⟩,
  ⟨(.int .i64), 1, 8, .int .i64 0⟩,
  ⟨.other, 1, 0, .tuple ⟨[.slice none 0 0, .int .i64 0]⟩⟩,
  ⟨.other, 1, 8, .nilFunc⟩,
  ⟨.other, 1, 8, .nilFunc⟩,
  ⟨.other, 1, 8, .nilFunc⟩,
  ⟨.other, 1, 8, .nilFunc⟩,
  ⟨(.struct [(0, t_api_Type), (1, t_api_Path), (2, t_api_Atom), (9, t_api_Val)]), 10, 144, .agg ⟨[.slice none 0 0, .slice none 0 0, .int .i64 0, .int .i64 0, .int .i64 0, .string ⟨⟨[]⟩⟩, .string ⟨⟨[]⟩⟩, .bool false, .int .i64 0, .slice none 0 0]⟩⟩,
  ⟨(.struct [(0, t_api_Type), (1, t_api_Path), (2, t_api_Atom), (9, t_api_Val)]), 10, 144, .agg ⟨[.slice none 0 0, .slice none 0 0, .int .i64 0, .int .i64 0, .int .i64 0, .string ⟨⟨[]⟩⟩, .string ⟨⟨[]⟩⟩, .bool false, .int .i64 0, .slice none 0 0]⟩⟩,
  ⟨.other, 1, 0, .tuple ⟨[.slice none 0 0, .int .i64 0]⟩⟩,
  ⟨.other, 1, 8, .nilFunc⟩,
  ⟨.other, 1, 8, .nilFunc⟩,
  ⟨.other, 1, 8, .nilFunc⟩,
  ⟨(.struct [(0, t_int), (1, t_int), (2, t_string), (3, t_string), (4, t_int), (5, t_api_Node)]), 11, 120, .agg ⟨[.int .i64 0, .int .i64 0, .string ⟨⟨[]⟩⟩, .string ⟨⟨[]⟩⟩, .int .i64 0, .int .i64 0, .int .i64 0, .string ⟨⟨[]⟩⟩, .string ⟨⟨[]⟩⟩, .bool false, .int .i64 0]⟩⟩,
  ⟨(.struct [(0, t_int), (1, t_int), (2, t_string), (3, t_string), (4, t_int), (5, t_api_Node)]), 11, 120, .agg ⟨[.int .i64 0, .int .i64 0, .string ⟨⟨[]⟩⟩, .string ⟨⟨[]⟩⟩, .int .i64 0, .int .i64 0, .int .i64 0, .string ⟨⟨[]⟩⟩, .string ⟨⟨[]⟩⟩, .bool false, .int .i64 0]⟩⟩,
  ⟨(.slice t_int), 1, 24, .slice none 0 0⟩,
  ⟨.other, 1, 8, .nilFunc⟩,
  ⟨(.slice t_api_Type), 1, 24, .slice none 0 0⟩,
  ⟨.other, 1, 8, .nilFunc⟩,
  ⟨.other, 1, 8, .nilFunc⟩,
  ⟨.other, 1, 8, .nilFunc⟩,
  ⟨.other, 1, 8, .nilFunc⟩,
  ⟨.other, 1, 8, .nilFunc⟩,
  ⟨.other, 1, 8, .nilFunc⟩,
  ⟨.other, 1, 8, .nilFunc⟩,
  ⟨.other, 1, 8, .nilFunc⟩,
  ⟨.other, 1, 8, .nilFunc⟩,
  ⟨.other, 1, 8, .nilFunc⟩,
  ⟨.other, 1, 8, .nilFunc⟩,
  ⟨(.slice t_api_Edit), 1, 24, .slice none 0 0⟩,
  ⟨.other, 1, 8, .nilFunc⟩,
  ⟨.other, 1, 8, .nilFunc⟩,
  ⟨.other, 1, 8, .nilFunc⟩,
  ⟨.other, 1, 8, .nilFunc⟩,
  ⟨(.struct [(0, t_int), (1, t_api_Path), (2, t_api_Val)]), 3, 56, .agg ⟨[.int .i64 0, .slice none 0 0, .slice none 0 0]⟩⟩,
  ⟨(.struct [(0, t_int), (1, t_api_Path), (2, t_api_Val)]), 3, 56, .agg ⟨[.int .i64 0, .slice none 0 0, .slice none 0 0]⟩⟩,
  ⟨.other, 1, 8, .nilFunc⟩,
  ⟨(.struct [(0, t_bool), (1, t_string), (2, t_int)]), 3, 32, .agg ⟨[.bool false, .string ⟨⟨[]⟩⟩, .int .i64 0]⟩⟩,
  ⟨(.struct [(0, t_bool), (1, t_string), (2, t_int)]), 3, 32, .agg ⟨[.bool false, .string ⟨⟨[]⟩⟩, .int .i64 0]⟩⟩,
  ⟨.other, 1, 8, .nilFunc⟩,
  ⟨.other, 1, 8, .nilFunc⟩,
  ⟨.other, 1, 8, .nilFunc⟩,
  ⟨.other, 1, 0, .tuple ⟨[.agg ⟨[.int .i64 0, .int .i64 0, .string ⟨⟨[]⟩⟩, .string ⟨⟨[]⟩⟩, .bool false, .int .i64 0]⟩, .bool false]⟩⟩,
  ⟨.other, 1, 8, .nilFunc⟩,
  ⟨.other, 1, 8, .nilFunc⟩,
  ⟨.other, 1, 8, .nilFunc⟩,
  ⟨.other, 1, 8, .nilFunc⟩,
  ⟨.other, 1, 8, .nilFunc⟩,
  ⟨(.map t_int t_int), 1, 8, .map none⟩,
  ⟨.other, 1, 8, .nilFunc⟩,
  ⟨.other, 1, 8, .nilFunc⟩,
  ⟨.other, 1, 8, .nilFunc⟩,
  ⟨.other, 1, 8, .nilFunc⟩,
  ⟨.other, 1, 8, .nilFunc⟩,
  ⟨.other, 1, 8, .nilFunc⟩,
  ⟨.other, 1, 0, .tuple ⟨[.int .i64 0, .bool false]⟩⟩,
  ⟨.other, 1, 8, .nilFunc⟩,
  ⟨.other, 1, 8, .nilFunc⟩,
  ⟨.other, 1, 8, .nilFunc⟩,
  ⟨.other, 1, 8, .nilFunc⟩,
  ⟨.other, 1, 8, .nilFunc⟩,
  ⟨.other, 1, 8, .nilFunc⟩,
  ⟨.other, 1, 8, .nilFunc⟩,
  ⟨.other, 1, 8, .nilFunc⟩,
  ⟨.other, 1, 8, .nilFunc⟩,
  ⟨.other, 1, 8, .nilFunc⟩,
  ⟨.other, 1, 8, .nilFunc⟩,
  ⟨.other, 1, 0, .tuple ⟨[.slice none 0 0, .bool false]⟩⟩,
  ⟨.other, 1, 8, .nilFunc⟩,
  ⟨.other, 1, 8, .nilFunc⟩,
  ⟨.other, 1, 8, .nilFunc⟩,
  ⟨.other, 1, 8, .nilFunc⟩,
  ⟨.other, 1, 8, .nilFunc⟩,
  ⟨.other, 1, 8, .nilFunc⟩,
  ⟨.other, 1, 8, .nilFunc⟩,
  ⟨.other, 1, 8, .nilFunc⟩,
  ⟨.other, 1, 8, .nilFunc⟩,
  ⟨.other, 1, 8, .nilFunc⟩,
  ⟨.other, 1, 8, .nilFunc⟩,
  ⟨(.slice t_bool), 1, 24, .slice none 0 0⟩,
  ⟨.other, 1, 8, .nilFunc⟩,
  ⟨.other, 1, 8, .nilFunc⟩,
  ⟨.other, 1, 8, .nilFunc⟩,
  ⟨.other, 1, 8, .nilFunc⟩,
  ⟨.other, 1, 8, .nilFunc⟩,
  ⟨.other, 1, 8, .nilFunc⟩,
  ⟨.other, 1, 8, .nilFunc⟩,
  ⟨.other, 1, 8, .nilFunc⟩,
  ⟨.other, 1, 8, .nilFunc⟩,
  ⟨.other, 1, 0, .tuple ⟨[.agg ⟨[.int .i64 0, .int .i64 0, .string ⟨⟨[]⟩⟩, .string ⟨⟨[]⟩⟩, .bool false, .int .i64 0]⟩, .int .i64 0]⟩⟩,
  ⟨.other, 1, 8, .nilFunc⟩,
  ⟨.other, 1, 8, .nilFunc⟩,
  ⟨.other, 1, 8, .nilFunc⟩,
  ⟨.other, 1, 8, .nilFunc⟩,
  ⟨.other, 1, 8, .nilFunc⟩,
  ⟨.other, 1, 8, .nilFunc⟩,
  ⟨.other, 1, 8, .nilFunc⟩,
  ⟨.other, 1, 8, .nilFunc⟩,
  ⟨.other, 1, 8, .nilFunc⟩,
  ⟨.other, 1, 8, .nilFunc⟩,
  ⟨.other, 1, 8, .nilFunc⟩,
  ⟨.other, 1, 8, .nilFunc⟩,
  ⟨.other, 1, 8, .nilFunc⟩,
  ⟨.other, 1, 8, .nilFunc⟩,
  ⟨(.map t_string t_api_Val), 1, 8, .map none⟩,
  ⟨.other, 1, 8, .nilFunc⟩,
  ⟨.other, 1, 8, .nilFunc⟩,
  ⟨.other, 1, 8, .nilFunc⟩,
  ⟨.other, 1, 8, .nilFunc⟩,
  ⟨(.struct [(0, t_int), (1, t_int), (2, t_bool), (3, t_string)]), 4, 40, .agg ⟨[.int .i64 0, .int .i64 0, .bool false, .string ⟨⟨[]⟩⟩]⟩⟩,
  ⟨(.struct [(0, t_int), (1, t_int), (2, t_bool), (3, t_string)]), 4, 40, .agg ⟨[.int .i64 0, .int .i64 0, .bool false, .string ⟨⟨[]⟩⟩]⟩⟩,
  ⟨(.slice t_val_open), 1, 24, .slice none 0 0⟩,
  ⟨.other, 1, 8, .pointer none⟩,
  ⟨.other, 1, 8, .nilFunc⟩,
  ⟨.other, 1, 8, .nilFunc⟩,
  ⟨.other, 1, 8, .nilFunc⟩,
  ⟨.other, 1, 8, .nilFunc⟩,
  ⟨.other, 1, 8, .nilFunc⟩,
  ⟨.other, 1, 8, .nilFunc⟩,
  ⟨(.int .u64), 1, 8, .int .u64 0⟩,
  ⟨.other, 1, 8, .nilFunc⟩,
  ⟨.other, 1, 8, .nilFunc⟩,
  ⟨.other, 1, 8, .nilFunc⟩,
  ⟨.other, 1, 8, .nilFunc⟩,
  ⟨.other, 1, 8, .nilFunc⟩,
  ⟨.other, 1, 8, .nilFunc⟩,
  ⟨.other, 1, 8, .nilFunc⟩,
  ⟨.other, 1, 8, .nilFunc⟩,
  ⟨.other, 1, 8, .nilFunc⟩,
  ⟨.other, 1, 8, .nilFunc⟩,
  ⟨.other, 1, 0, .tuple ⟨[.slice none 0 0, .int .i64 0, .int .i64 0]⟩⟩,
  ⟨.other, 1, 8, .nilFunc⟩,
  ⟨.other, 1, 8, .nilFunc⟩,
  ⟨.other, 1, 8, .nilFunc⟩,
  ⟨.other, 1, 8, .nilFunc⟩,
  ⟨.other, 1, 8, .nilFunc⟩,
  ⟨(.map t_string t_api_Type), 1, 8, .map none⟩,
  ⟨.other, 1, 8, .nilFunc⟩,
  ⟨.other, 1, 0, .tuple ⟨[.slice none 0 0, .bool false]⟩⟩,
  ⟨.other, 1, 8, .nilFunc⟩,
  ⟨.other, 1, 8, .nilFunc⟩,
  ⟨.other, 1, 8, .nilFunc⟩,
  ⟨.other, 1, 8, .nilFunc⟩,
  ⟨.other, 1, 8, .nilFunc⟩,
  ⟨.other, 1, 0, .tuple ⟨[.int .u64 0, .int .u64 0]⟩⟩,
  ⟨.other, 1, 8, .nilFunc⟩,
  ⟨.other, 1, 8, .pointer none⟩,
  ⟨(.slice t_uint8), 1, 24, .slice none 0 0⟩,
  ⟨(.struct [(0, t_P_strings_Builder), (1, t_L_uint8)]), 2, 32, .agg ⟨[.pointer none, .slice none 0 0]⟩⟩,
  ⟨(.struct [(0, t_P_strings_Builder), (1, t_L_uint8)]), 2, 32, .agg ⟨[.pointer none, .slice none 0 0]⟩⟩,
  ⟨.other, 1, 8, .nilFunc⟩,
  ⟨.other, 1, 16, .nilIface⟩,
  ⟨.other, 1, 16, .nilIface⟩,
  ⟨.other, 1, 0, .tuple ⟨[.int .i64 0, .nilIface]⟩⟩,
  ⟨.other, 1, 8, .nilFunc⟩,
  ⟨.other, 1, 8, .nilFunc⟩,
  ⟨.other, 1, 8, .nilFunc⟩,
  ⟨.other, 1, 8, .nilFunc⟩,
  ⟨.other, 1, 8, .nilFunc⟩,
  ⟨.other, 1, 8, .nilFunc⟩,
  ⟨(.array 256 t_uint8), 256, 256, .agg ⟨[.int .u8 0, .int .u8 0, .int .u8 0, .int .u8 0, .int .u8 0, .int .u8 0, .int .u8 0, .int .u8 0, .int .u8 0, .int .u8 0, .int .u8 0, .int .u8 0, .int .u8 0, .int .u8 0, .int .u8 0, .int .u8 0, .int .u8 0, .int .u8 0, .int .u8 0, .int .u8 0, .int .u8 0, .int .u8 0, .int .u8 0, .int .u8 0, .int .u8 0, .int .u8 0, .int .u8 0, .int .u8 0, .int .u8 0, .int .u8 0, .int .u8 0, .int .u8 0, .int .u8 0, .int .u8 0, .int .u8 0, .int .u8 0, .int .u8 0, .int .u8 0, .int .u8 0, .int .u8 0, .int .u8 0, .int .u8 0, .int .u8 0, .int .u8 0, .int .u8 0, .int .u8 0, .int .u8 0, .int .u8 0, .int .u8 0, .int .u8 0, .int .u8 0, .int .u8 0, .int .u8 0, .int .u8 0, .int .u8 0, .int .u8 0, .int .u8 0, .int .u8 0, .int .u8 0, .int .u8 0, .int .u8 0, .int .u8 0, .int .u8 0, .int .u8 0, .int .u8 0, .int .u8 0, .int .u8 0, .int .u8 0, .int .u8 0, .int .u8 0, .int .u8 0, .int .u8 0, .int .u8 0, .int .u8 0, .int .u8 0, .int .u8 0, .int .u8 0, .int .u8 0, .int .u8 0, .int .u8 0, .int .u8 0, .int .u8 0, .int .u8 0, .int .u8 0, .int .u8 0, .int .u8 0, .int .u8 0, .int .u8 0, .int .u8 0, .int .u8 0, .int .u8 0, .int .u8 0, .int .u8 0, .int .u8 0, .int .u8 0, .int .u8 0, .int .u8 0, .int .u8 0, .int .u8 0, .int .u8 0, .int .u8 0, .int .u8 0, .int .u8 0, .int .u8 0, .int .u8 0, .int .u8 0, .int .u8 0, .int .u8 0, .int .u8 0, .int .u8 0, .int .u8 0, .int .u8 0, .int .u8 0, .int .u8 0, .int .u8 0, .int .u8 0, .int .u8 0, .int .u8 0, .int .u8 0, .int .u8 0, .int .u8 0, .int .u8 0, .int .u8 0, .int .u8 0, .int .u8 0, .int .u8 0, .int .u8 0, .int .u8 0, .int .u8 0, .int .u8 0, .int .u8 0, .int .u8 0, .int .u8 0, .int .u8 0, .int .u8 0, .int .u8 0, .int .u8 0, .int .u8 0, .int .u8 0, .int .u8 0, .int .u8 0, .int .u8 0, .int .u8 0, .int .u8 0, .int .u8 0, .int .u8 0, .int .u8 0, .int .u8 0, .int .u8 0, .int .u8 0, .int .u8 0, .int .u8 0, .int .u8 0, .int .u8 0, .int .u8 0, .int .u8 0, .int .u8 0, .int .u8 0, .int .u8 0, .int .u8 0, .int .u8 0, .int .u8 0, .int .u8 0, .int .u8 0, .int .u8 0, .int .u8 0, .int .u8 0, .int .u8 0, .int .u8 0, .int .u8 0, .int .u8 0, .int .u8 0, .int .u8 0, .int .u8 0, .int .u8 0, .int .u8 0, .int .u8 0, .int .u8 0, .int .u8 0, .int .u8 0, .int .u8 0, .int .u8 0, .int .u8 0, .int .u8 0, .int .u8 0, .int .u8 0, .int .u8 0, .int .u8 0, .int .u8 0, .int .u8 0, .int .u8 0, .int .u8 0, .int .u8 0, .int .u8 0, .int .u8 0, .int .u8 0, .int .u8 0, .int .u8 0, .int .u8 0, .int .u8 0, .int .u8 0, .int .u8 0, .int .u8 0, .int .u8 0, .int .u8 0, .int .u8 0, .int .u8 0, .int .u8 0, .int .u8 0, .int .u8 0, .int .u8 0, .int .u8 0, .int .u8 0, .int .u8 0, .int .u8 0, .int .u8 0, .int .u8 0, .int .u8 0, .int .u8 0, .int .u8 0, .int .u8 0, .int .u8 0, .int .u8 0, .int .u8 0, .int .u8 0, .int .u8 0, .int .u8 0, .int .u8 0, .int .u8 0, .int .u8 0, .int .u8 0, .int .u8 0, .int .u8 0, .int .u8 0, .int .u8 0, .int .u8 0, .int .u8 0, .int .u8 0, .int .u8 0, .int .u8 0, .int .u8 0, .int .u8 0, .int .u8 0, .int .u8 0, .int .u8 0, .int .u8 0, .int .u8 0, .int .u8 0, .int .u8 0, .int .u8 0, .int .u8 0, .int .u8 0, .int .u8 0, .int .u8 0, .int .u8 0, .int .u8 0]⟩⟩,
  ⟨(.struct [(0, t_uint8), (1, t_uint8)]), 2, 2, .agg ⟨[.int .u8 0, .int .u8 0]⟩⟩,
  ⟨(.struct [(0, t_uint8), (1, t_uint8)]), 2, 2, .agg ⟨[.int .u8 0, .int .u8 0]⟩⟩,
  ⟨(.array 16 t_utf8_acceptRange), 32, 32, .agg ⟨[.int .u8 0, .int .u8 0, .int .u8 0, .int .u8 0, .int .u8 0, .int .u8 0, .int .u8 0, .int .u8 0, .int .u8 0, .int .u8 0, .int .u8 0, .int .u8 0, .int .u8 0, .int .u8 0, .int .u8 0, .int .u8 0, .int .u8 0, .int .u8 0, .int .u8 0, .int .u8 0, .int .u8 0, .int .u8 0, .int .u8 0, .int .u8 0, .int .u8 0, .int .u8 0, .int .u8 0, .int .u8 0, .int .u8 0, .int .u8 0, .int .u8 0, .int .u8 0]⟩⟩,
  ⟨.other, 1, 8, .nilFunc⟩,
  ⟨.other, 1, 8, .nilFunc⟩,
  ⟨.other, 1, 0, .tuple ⟨[.slice none 0 0, .int .i64 0]⟩⟩,
  ⟨.other, 1, 8, .nilFunc⟩,
  ⟨.other, 1, 8, .nilFunc⟩,
  ⟨.other, 1, 8, .nilFunc⟩,
  ⟨.other, 1, 8, .nilFunc⟩,
  ⟨.other, 1, 8, .nilFunc⟩,
  ⟨.other, 1, 8, .nilFunc⟩,
  ⟨.other, 1, 8, .nilFunc⟩,
  ⟨.other, 1, 8, .nilFunc⟩,
  ⟨.other, 1, 8, .nilFunc⟩,
  ⟨.other, 1, 8, .nilFunc⟩,
  ⟨(.array 256 t_bool), 256, 256, .agg ⟨[.bool false, .bool false, .bool false, .bool false, .bool false, .bool false, .bool false, .bool false, .bool false, .bool false, .bool false, .bool false, .bool false, .bool false, .bool false, .bool false, .bool false, .bool false, .bool false, .bool false, .bool false, .bool false, .bool false, .bool false, .bool false, .bool false, .bool false, .bool false, .bool false, .bool false, .bool false, .bool false, .bool false, .bool false, .bool false, .bool false, .bool false, .bool false, .bool false, .bool false, .bool false, .bool false, .bool false, .bool false, .bool false, .bool false, .bool false, .bool false, .bool false, .bool false, .bool false, .bool false, .bool false, .bool false, .bool false, .bool false, .bool false, .bool false, .bool false, .bool false, .bool false, .bool false, .bool false, .bool false, .bool false, .bool false, .bool false, .bool false, .bool false, .bool false, .bool false, .bool false, .bool false, .bool false, .bool false, .bool false, .bool false, .bool false, .bool false, .bool false, .bool false, .bool false, .bool false, .bool false, .bool false, .bool false, .bool false, .bool false, .bool false, .bool false, .bool false, .bool false, .bool false, .bool false, .bool false, .bool false, .bool false, .bool false, .bool false, .bool false, .bool false, .bool false, .bool false, .bool false, .bool false, .bool false, .bool false, .bool false, .bool false, .bool false, .bool false, .bool false, .bool false, .bool false, .bool false, .bool false, .bool false, .bool false, .bool false, .bool false, .bool false, .bool false, .bool false, .bool false, .bool false, .bool false, .bool false, .bool false, .bool false, .bool false, .bool false, .bool false, .bool false, .bool false, .bool false, .bool false, .bool false, .bool false, .bool false, .bool false, .bool false, .bool false, .bool false, .bool false, .bool false, .bool false, .bool false, .bool false, .bool false, .bool false, .bool false, .bool false, .bool false, .bool false, .bool false, .bool false, .bool false, .bool false, .bool false, .bool false, .bool false, .bool false, .bool false, .bool false, .bool false, .bool false, .bool false, .bool false, .bool false, .bool false, .bool false, .bool false, .bool false, .bool false, .bool false, .bool false, .bool false, .bool false, .bool false, .bool false, .bool false, .bool false, .bool false, .bool false, .bool false, .bool false, .bool false, .bool false, .bool false, .bool false, .bool false, .bool false, .bool false, .bool false, .bool false, .bool false, .bool false, .bool false, .bool false, .bool false, .bool false, .bool false, .bool false, .bool false, .bool false, .bool false, .bool false, .bool false, .bool false, .bool false, .bool false, .bool false, .bool false, .bool false, .bool false, .bool false, .bool false, .bool false, .bool false, .bool false, .bool false, .bool false, .bool false, .bool false, .bool false, .bool false, .bool false, .bool false, .bool false, .bool false, .bool false, .bool false, .bool false, .bool false, .bool false, .bool false, .bool false, .bool false, .bool false, .bool false, .bool false, .bool false, .bool false, .bool false, .bool false, .bool false, .bool false, .bool false, .bool false, .bool false, .bool false, .bool false, .bool false, .bool false, .bool false, .bool false]⟩⟩,
  ⟨(.array 256 t_bool), 256, 256, .agg ⟨[.bool false, .bool false, .bool false, .bool false, .bool false, .bool false, .bool false, .bool false, .bool false, .bool false, .bool false, .bool false, .bool false, .bool false, .bool false, .bool false, .bool false, .bool false, .bool false, .bool false, .bool false, .bool false, .bool false, .bool false, .bool false, .bool false, .bool false, .bool false, .bool false, .bool false, .bool false, .bool false, .bool false, .bool false, .bool false, .bool false, .bool false, .bool false, .bool false, .bool false, .bool false, .bool false, .bool false, .bool false, .bool false, .bool false, .bool false, .bool false, .bool false, .bool false, .bool false, .bool false, .bool false, .bool false, .bool false, .bool false, .bool false, .bool false, .bool false, .bool false, .bool false, .bool false, .bool false, .bool false, .bool false, .bool false, .bool false, .bool false, .bool false, .bool false, .bool false, .bool false, .bool false, .bool false, .bool false, .bool false, .bool false, .bool false, .bool false, .bool false, .bool false, .bool false, .bool false, .bool false, .bool false, .bool false, .bool false, .bool false, .bool false, .bool false, .bool false, .bool false, .bool false, .bool false, .bool false, .bool false, .bool false, .bool false, .bool false, .bool false, .bool false, .bool false, .bool false, .bool false, .bool false, .bool false, .bool false, .bool false, .bool false, .bool false, .bool false, .bool false, .bool false, .bool false, .bool false, .bool false, .bool false, .bool false, .bool false, .bool false, .bool false, .bool false, .bool false, .bool false, .bool false, .bool false, .bool false, .bool false, .bool false, .bool false, .bool false, .bool false, .bool false, .bool false, .bool false, .bool false, .bool false, .bool false, .bool false, .bool false, .bool false, .bool false, .bool false, .bool false, .bool false, .bool false, .bool false, .bool false, .bool false, .bool false, .bool false, .bool false, .bool false, .bool false, .bool false, .bool false, .bool false, .bool false, .bool false, .bool false, .bool false, .bool false, .bool false, .bool false, .bool false, .bool false, .bool false, .bool false, .bool false, .bool false, .bool false, .bool false, .bool false, .bool false, .bool false, .bool false, .bool false, .bool false, .bool false, .bool false, .bool false, .bool false, .bool false, .bool false, .bool false, .bool false, .bool false, .bool false, .bool false, .bool false, .bool false, .bool false, .bool false, .bool false, .bool false, .bool false, .bool false, .bool false, .bool false, .bool false, .bool false, .bool false, .bool false, .bool false, .bool false, .bool false, .bool false, .bool false, .bool false, .bool false, .bool false, .bool false, .bool false, .bool false, .bool false, .bool false, .bool false, .bool false, .bool false, .bool false, .bool false, .bool false, .bool false, .bool false, .bool false, .bool false, .bool false, .bool false, .bool false, .bool false, .bool false, .bool false, .bool false, .bool false, .bool false, .bool false, .bool false, .bool false, .bool false, .bool false, .bool false, .bool false, .bool false, .bool false, .bool false, .bool false, .bool false, .bool false, .bool false, .bool false, .bool false, .bool false, .bool false, .bool false, .bool false, .bool false]⟩⟩,
  ⟨.other, 1, 0, .tuple ⟨[.agg ⟨[.bool false, .bool false, .bool false, .bool false, .bool false, .bool false, .bool false, .bool false, .bool false, .bool false, .bool false, .bool false, .bool false, .bool false, .bool false, .bool false, .bool false, .bool false, .bool false, .bool false, .bool false, .bool false, .bool false, .bool false, .bool false, .bool false, .bool false, .bool false, .bool false, .bool false, .bool false, .bool false, .bool false, .bool false, .bool false, .bool false, .bool false, .bool false, .bool false, .bool false, .bool false, .bool false, .bool false, .bool false, .bool false, .bool false, .bool false, .bool false, .bool false, .bool false, .bool false, .bool false, .bool false, .bool false, .bool false, .bool false, .bool false, .bool false, .bool false, .bool false, .bool false, .bool false, .bool false, .bool false, .bool false, .bool false, .bool false, .bool false, .bool false, .bool false, .bool false, .bool false, .bool false, .bool false, .bool false, .bool false, .bool false, .bool false, .bool false, .bool false, .bool false, .bool false, .bool false, .bool false, .bool false, .bool false, .bool false, .bool false, .bool false, .bool false, .bool false, .bool false, .bool false, .bool false, .bool false, .bool false, .bool false, .bool false, .bool false, .bool false, .bool false, .bool false, .bool false, .bool false, .bool false, .bool false, .bool false, .bool false, .bool false, .bool false, .bool false, .bool false, .bool false, .bool false, .bool false, .bool false, .bool false, .bool false, .bool false, .bool false, .bool false, .bool false, .bool false, .bool false, .bool false, .bool false, .bool false, .bool false, .bool false, .bool false, .bool false, .bool false, .bool false, .bool false, .bool false, .bool false, .bool false, .bool false, .bool false, .bool false, .bool false, .bool false, .bool false, .bool false, .bool false, .bool false, .bool false, .bool false, .bool false, .bool false, .bool false, .bool false, .bool false, .bool false, .bool false, .bool false, .bool false, .bool false, .bool false, .bool false, .bool false, .bool false, .bool false, .bool false, .bool false, .bool false, .bool false, .bool false, .bool false, .bool false, .bool false, .bool false, .bool false, .bool false, .bool false, .bool false, .bool false, .bool false, .bool false, .bool false, .bool false, .bool false, .bool false, .bool false, .bool false, .bool false, .bool false, .bool false, .bool false, .bool false, .bool false, .bool false, .bool false, .bool false, .bool false, .bool false, .bool false, .bool false, .bool false, .bool false, .bool false, .bool false, .bool false, .bool false, .bool false, .bool false, .bool false, .bool false, .bool false, .bool false, .bool false, .bool false, .bool false, .bool false, .bool false, .bool false, .bool false, .bool false, .bool false, .bool false, .bool false, .bool false, .bool false, .bool false, .bool false, .bool false, .bool false, .bool false, .bool false, .bool false, .bool false, .bool false, .bool false, .bool false, .bool false, .bool false, .bool false, .bool false, .bool false, .bool false, .bool false, .bool false, .bool false, .bool false, .bool false, .bool false, .bool false, .bool false, .bool false, .bool false, .bool false, .bool false, .bool false, .bool false, .bool false, .bool false]⟩, .bool false]⟩⟩,
  ⟨.other, 1, 8, .nilFunc⟩,
  ⟨.other, 1, 8, .nilFunc⟩,
  ⟨.other, 1, 8, .pointer none⟩,
  ⟨(.int .u32), 1, 4, .int .u32 0⟩,
  ⟨.other, 1, 0, .tuple ⟨[.int .u32 0, .int .u32 0]⟩⟩,
  ⟨.other, 1, 8, .nilFunc⟩,
  ⟨(.int .u64), 1, 8, .int .u64 0⟩,
  ⟨.other, 1, 0, .tuple ⟨[.int .u64 0, .int .u64 0]⟩⟩,
  ⟨.other, 1, 8, .nilFunc⟩,
  ⟨.other, 1, 8, .pointer none⟩,
  ⟨.other, 1, 8, .nilFunc⟩,
  ⟨.other, 1, 8, .nilFunc⟩,
  ⟨.other, 1, 8, .nilFunc⟩,
  ⟨.other, 1, 8, .nilFunc⟩,
  ⟨.other, 1, 8, .nilFunc⟩,
  ⟨.other, 1, 0, .tuple ⟨[.agg ⟨[.bool false, .string ⟨⟨[]⟩⟩, .int .i64 0]⟩, .int .i64 0]⟩⟩,
  ⟨.other, 1, 8, .nilFunc⟩,
  ⟨.other, 1, 8, .nilFunc⟩,
  ⟨.other, 1, 8, .nilFunc⟩,
  ⟨.other, 1, 8, .nilFunc⟩,
  ⟨.other, 1, 8, .nilFunc⟩,
  ⟨.other, 1, 8, .nilFunc⟩,
  ⟨.other, 1, 8, .nilFunc⟩,
  ⟨.other, 1, 8, .nilFunc⟩,
  ⟨.other, 1, 8, .nilFunc⟩,
  ⟨.other, 1, 8, .nilFunc⟩,
  ⟨.other, 1, 8, .nilFunc⟩,
  ⟨(.slice t_L_int), 1, 24, .slice none 0 0⟩,
  ⟨.other, 1, 8, .nilFunc⟩,
  ⟨.other, 1, 8, .nilFunc⟩,
  ⟨.other, 1, 8, .nilFunc⟩,
  ⟨.other, 1, 8, .nilFunc⟩,
  ⟨.other, 1, 0, .tuple ⟨[.int .i32 0, .int .i64 0]⟩⟩,
  ⟨.other, 1, 8, .nilFunc⟩,
  ⟨.other, 1, 8, .nilFunc⟩,
  ⟨.other, 1, 8, .pointer none⟩,
  ⟨.other, 1, 8, .nilFunc⟩,
  ⟨.other, 1, 8, .nilFunc⟩,
  ⟨.other, 1, 8, .nilFunc⟩,
  ⟨(.int .i64), 1, 8, .int .i64 0⟩,
  ⟨.other, 1, 0, .tuple ⟨[.int .i64 0, .int .i64 0]⟩⟩,
  ⟨.other, 1, 8, .nilFunc⟩,
  ⟨.other, 1, 8, .nilFunc⟩,
  ⟨.other, 1, 8, .nilFunc⟩,
  ⟨.other, 1, 8, .nilFunc⟩,
  ⟨.other, 1, 8, .nilFunc⟩,
  ⟨.other, 1, 8, .nilFunc⟩,
  ⟨.other, 1, 0, .tuple ⟨[.string ⟨⟨[]⟩⟩, .int .i64 0, .int .i64 0]⟩⟩,
  ⟨.other, 1, 8, .nilFunc⟩,
  ⟨.other, 1, 0, .tuple ⟨[.int .i64 0, .int .i64 0]⟩⟩,
  ⟨.other, 1, 8, .nilFunc⟩,
  ⟨.other, 1, 8, .nilFunc⟩,
  ⟨.other, 1, 8, .nilFunc⟩,
  ⟨.other, 1, 8, .nilFunc⟩,
  ⟨.other, 1, 8, .nilFunc⟩,
  ⟨.other, 1, 8, .nilFunc⟩,
  ⟨.other, 1, 8, .nilFunc⟩,
  ⟨.other, 1, 8, .nilFunc⟩,
  ⟨.other, 1, 8, .nilFunc⟩,
  ⟨(.int .u64), 1, 8, .int .u64 0⟩,
  ⟨.other, 1, 8, .nilFunc⟩,
  ⟨.other, 1, 8, .nilFunc⟩,
  ⟨.other, 1, 8, .nilFunc⟩,
  ⟨.other, 1, 8, .pointer none⟩,
  ⟨.other, 1, 8, .nilFunc⟩,
  ⟨.other, 1, 0, .tuple ⟨[.string ⟨⟨[]⟩⟩, .int .i64 0]⟩⟩,
  ⟨.other, 1, 8, .nilFunc⟩,
  ⟨.other, 1, 8, .nilFunc⟩,
  ⟨.other, 1, 8, .nilFunc⟩,
  ⟨.other, 1, 8, .pointer none⟩,
  ⟨.other, 1, 8, .nilFunc⟩,
  ⟨.other, 1, 8, .nilFunc⟩,
  ⟨(.struct [(0, t_P_abi_Type), (1, t_P_abi_Type), (2, t_P_abi_Type), (3, t_string)]), 4, 40, .agg ⟨[.pointer none, .pointer none, .pointer none, .string ⟨⟨[]⟩⟩]⟩⟩,
  ⟨(.struct [(0, t_P_abi_Type), (1, t_P_abi_Type), (2, t_P_abi_Type), (3, t_string)]), 4, 40, .agg ⟨[.pointer none, .pointer none, .pointer none, .string ⟨⟨[]⟩⟩]⟩⟩,
  ⟨(.array 0 t_P_runtime_PanicNilError), 0, 0, .agg ⟨[]⟩⟩,
  ⟨(.struct [(0, t__0_P_runtime_PanicNilError)]), 0, 0, .agg ⟨[]⟩⟩,
  ⟨(.struct [(0, t__0_P_runtime_PanicNilError)]), 0, 0, .agg ⟨[]⟩⟩,
  ⟨(.int .u8), 1, 1, .int .u8 0⟩,
  ⟨(.int .u8), 1, 1, .int .u8 0⟩,
  ⟨.other, 1, 8, .nilFunc⟩,
  ⟨(.int .i32), 1, 4, .int .i32 0⟩,
  ⟨(.int .i32), 1, 4, .int .i32 0⟩,
  ⟨(.struct [(0, t_uintptr), (1, t_uintptr), (2, t_uint32), (3, t_abi_TFlag), (4, t_uint8), (5, t_uint8), (6, t_abi_Kind), (7, t_func_unsafe_Pointer__unsafe_Pointer__bool), (8, t_P_uint8), (9, t_abi_NameOff), (10, t_abi_TypeOff)]), 11, 48, .agg ⟨[.int .u64 0, .int .u64 0, .int .u32 0, .int .u8 0, .int .u8 0, .int .u8 0, .int .u8 0, .nilFunc, .pointer none, .int .i32 0, .int .i32 0]⟩⟩,
  ⟨(.struct [(0, t_uintptr), (1, t_uintptr), (2, t_uint32), (3, t_abi_TFlag), (4, t_uint8), (5, t_uint8), (6, t_abi_Kind), (7, t_func_unsafe_Pointer__unsafe_Pointer__bool), (8, t_P_uint8), (9, t_abi_NameOff), (10, t_abi_TypeOff)]), 11, 48, .agg ⟨[.int .u64 0, .int .u64 0, .int .u32 0, .int .u8 0, .int .u8 0, .int .u8 0, .int .u8 0, .nilFunc, .pointer none, .int .i32 0, .int .i32 0]⟩⟩]
def D (t : TypeId) : TInfo := tabD.getD t TInfo.off
theorem tok_0 : TOk Tryz.prog 0 (tabD.getD 0 TInfo.off) := q06 (by kernel_rfl) (by kernel_rfl) (by kernel_rfl)
theorem tok_1 : TOk Tryz.prog 1 (tabD.getD 1 TInfo.off) := q06 (by kernel_rfl) (by kernel_rfl) (by kernel_rfl)
theorem tok_2 : TOk Tryz.prog 2 (tabD.getD 2 TInfo.off) := q06 (by kernel_rfl) (by kernel_rfl) (by kernel_rfl)
theorem tok_3 : TOk Tryz.prog 3 (tabD.getD 3 TInfo.off) := q06 (by kernel_rfl) (by kernel_rfl) (by kernel_rfl)
theorem tok_4 : TOk Tryz.prog 4 (tabD.getD 4 TInfo.off) := q06 (by kernel_rfl) (by kernel_rfl) (by kernel_rfl)
theorem tok_5 : TOk Tryz.prog 5 (tabD.getD 5 TInfo.off) := q06 (by kernel_rfl) (by kernel_rfl) (by kernel_rfl)
theorem tok_6 : TOk Tryz.prog 6 (tabD.getD 6 TInfo.off) := q06 (by kernel_rfl) (by kernel_rfl) (by kernel_rfl)
theorem tok_7 : TOk Tryz.prog 7 (tabD.getD 7 TInfo.off) := q06 (by kernel_rfl) (by kernel_rfl) (by kernel_rfl)
theorem tok_8 : TOk Tryz.prog 8 (tabD.getD 8 TInfo.off) := q06 (by kernel_rfl) (by kernel_rfl) (by kernel_rfl)
theorem tok_9 : TOk Tryz.prog 9 (tabD.getD 9 TInfo.off) := q06 (by kernel_rfl) (by kernel_rfl) (by kernel_rfl)
theorem tok_10 : TOk Tryz.prog 10 (tabD.getD 10 TInfo.off) := q06 (by kernel_rfl) (by kernel_rfl) (by kernel_rfl)
theorem tok_11 : TOk Tryz.prog 11 (tabD.getD 11 TInfo.off) := q06 (by kernel_rfl) (by kernel_rfl) (by kernel_rfl)
theorem tok_12 : TOk Tryz.prog 12 (tabD.getD 12 TInfo.off) := q06 (by kernel_rfl) (by kernel_rfl) (by kernel_rfl)
theorem tok_13 : TOk Tryz.prog 13 (tabD.getD 13 TInfo.off) := q06 (by kernel_rfl) (by kernel_rfl) (by kernel_rfl)
theorem tok_14 : TOk Tryz.prog 14 (tabD.getD 14 TInfo.off) := q06 (by kernel_rfl) (by kernel_rfl) (by kernel_rfl)
theorem tok_15 : TOk Tryz.prog 15 (tabD.getD 15 TInfo.off) := q06 (by kernel_rfl) (by kernel_rfl) (by kernel_rfl)
theorem tok_16 : TOk Tryz.prog 16 (tabD.getD 16 TInfo.off) := q06 (by kernel_rfl) (by kernel_rfl) (by kernel_rfl)
theorem tok_17 : TOk Tryz.prog 17 (tabD.getD 17 TInfo.off) := q06 (by kernel_rfl) (by kernel_rfl) (by kernel_rfl)
theorem tok_18 : TOk Tryz.prog 18 (tabD.getD 18 TInfo.off) := q06 (by kernel_rfl) (by kernel_rfl) (by kernel_rfl)
theorem tok_19 : TOk Tryz.prog 19 (tabD.getD 19 TInfo.off) := q06 (by kernel_rfl) (by kernel_rfl) (by kernel_rfl)
theorem tok_20 : TOk Tryz.prog 20 (tabD.getD 20 TInfo.off) := q06 (by kernel_rfl) (by kernel_rfl) (by kernel_rfl)
theorem tok_21 : TOk Tryz.prog 21 (tabD.getD 21 TInfo.off) := q06 (by kernel_rfl) (by kernel_rfl) (by kernel_rfl)
theorem tok_22 : TOk Tryz.prog 22 (tabD.getD 22 TInfo.off) := q06 (by kernel_rfl) (by kernel_rfl) (by kernel_rfl)
theorem tok_23 : TOk Tryz.prog 23 (tabD.getD 23 TInfo.off) := q06 (by kernel_rfl) (by kernel_rfl) (by kernel_rfl)
theorem tok_24 : TOk Tryz.prog 24 (tabD.getD 24 TInfo.off) := q06 (by kernel_rfl) (by kernel_rfl) (by kernel_rfl)
theorem tok_25 : TOk Tryz.prog 25 (tabD.getD 25 TInfo.off) := q06 (by kernel_rfl) (by kernel_rfl) (by kernel_rfl)
theorem tok_26 : TOk Tryz.prog 26 (tabD.getD 26 TInfo.off) := q06 (by kernel_rfl) (by kernel_rfl) (by kernel_rfl)
theorem tok_27 : TOk Tryz.prog 27 (tabD.getD 27 TInfo.off) := q06 (by kernel_rfl) (by kernel_rfl) (by kernel_rfl)
theorem tok_28 : TOk Tryz.prog 28 (tabD.getD 28 TInfo.off) := q06 (by kernel_rfl) (by kernel_rfl) (by kernel_rfl)
theorem tok_29 : TOk Tryz.prog 29 (tabD.getD 29 TInfo.off) := q06 (by kernel_rfl) (by kernel_rfl) (by kernel_rfl)
theorem tok_30 : TOk Tryz.prog 30 (tabD.getD 30 TInfo.off) := q06 (by kernel_rfl) (by kernel_rfl) (by kernel_rfl)
theorem tok_31 : TOk Tryz.prog 31 (tabD.getD 31 TInfo.off) := q06 (by kernel_rfl) (by kernel_rfl) (by kernel_rfl)
theorem tok_32 : TOk Tryz.prog 32 (tabD.getD 32 TInfo.off) := q06 (by kernel_rfl) (by kernel_rfl) (by kernel_rfl)
theorem tok_33 : TOk Tryz.prog 33 (tabD.getD 33 TInfo.off) := q06 (by kernel_rfl) (by kernel_rfl) (by kernel_rfl)
theorem tok_34 : TOk Tryz.prog 34 (tabD.getD 34 TInfo.off) := q06 (by kernel_rfl) (by kernel_rfl) (by kernel_rfl)
theorem tok_35 : TOk Tryz.prog 35 (tabD.getD 35 TInfo.off) := q06 (by kernel_rfl) (by kernel_rfl) (by kernel_rfl)
theorem tok_36 : TOk Tryz.prog 36 (tabD.getD 36 TInfo.off) := q06 (by kernel_rfl) (by kernel_rfl) (by kernel_rfl)
theorem tok_37 : TOk Tryz.prog 37 (tabD.getD 37 TInfo.off) := q06 (by kernel_rfl) (by kernel_rfl) (by kernel_rfl)
theorem tok_38 : TOk Tryz.prog 38 (tabD.getD 38 TInfo.off) := q06 (by kernel_rfl) (by kernel_rfl) (by kernel_rfl)
theorem tok_39 : TOk Tryz.prog 39 (tabD.getD 39 TInfo.off) := q06 (by kernel_rfl) (by kernel_rfl) (by kernel_rfl)
theorem tok_40 : TOk Tryz.prog 40 (tabD.getD 40 TInfo.off) := q06 (by kernel_rfl) (by kernel_rfl) (by kernel_rfl)
theorem tok_41 : TOk Tryz.prog 41 (tabD.getD 41 TInfo.off) := q06 (by kernel_rfl) (by kernel_rfl) (by kernel_rfl)
theorem tok_42 : TOk Tryz.prog 42 (tabD.getD 42 TInfo.off) := q06 (by kernel_rfl) (by kernel_rfl) (by kernel_rfl)
theorem tok_43 : TOk Tryz.prog 43 (tabD.getD 43 TInfo.off) := q06 (by kernel_rfl) (by kernel_rfl) (by kernel_rfl)
theorem tok_44 : TOk Tryz.prog 44 (tabD.getD 44 TInfo.off) := q06 (by kernel_rfl) (by kernel_rfl) (by kernel_rfl)
theorem tok_45 : TOk Tryz.prog 45 (tabD.getD 45 TInfo.off) := q06 (by kernel_rfl) (by kernel_rfl) (by kernel_rfl)
theorem tok_46 : TOk Tryz.prog 46 (tabD.getD 46 TInfo.off) := q06 (by kernel_rfl) (by kernel_rfl) (by kernel_rfl)
theorem tok_47 : TOk Tryz.prog 47 (tabD.getD 47 TInfo.off) := q06 (by kernel_rfl) (by kernel_rfl) (by kernel_rfl)
theorem tok_48 : TOk Tryz.prog 48 (tabD.getD 48 TInfo.off) := q06 (by kernel_rfl) (by kernel_rfl) (by kernel_rfl)
theorem tok_49 : TOk Tryz.prog 49 (tabD.getD 49 TInfo.off) := q06 (by kernel_rfl) (by kernel_rfl) (by kernel_rfl)
theorem tok_50 : TOk Tryz.prog 50 (tabD.getD 50 TInfo.off) := q06 (by kernel_rfl) (by kernel_rfl) (by kernel_rfl)
theorem tok_51 : TOk Tryz.prog 51 (tabD.getD 51 TInfo.off) := q06 (by kernel_rfl) (by kernel_rfl) (by kernel_rfl)
theorem tok_52 : TOk Tryz.prog 52 (tabD.getD 52 TInfo.off) := q06 (by kernel_rfl) (by kernel_rfl) (by kernel_rfl)
theorem tok_53 : TOk Tryz.prog 53 (tabD.getD 53 TInfo.off) := q06 (by kernel_rfl) (by kernel_rfl) (by kernel_rfl)
theorem tok_54 : TOk Tryz.prog 54 (tabD.getD 54 TInfo.off) := q06 (by kernel_rfl) (by kernel_rfl) (by kernel_rfl)
theorem tok_55 : TOk Tryz.prog 55 (tabD.getD 55 TInfo.off) := q06 (by kernel_rfl) (by kernel_rfl) (by kernel_rfl)
theorem tok_56 : TOk Tryz.prog 56 (tabD.getD 56 TInfo.off) := q06 (by kernel_rfl) (by kernel_rfl) (by kernel_rfl)
theorem tok_57 : TOk Tryz.prog 57 (tabD.getD 57 TInfo.off) := q06 (by kernel_rfl) (by kernel_rfl) (by kernel_rfl)
theorem tok_58 : TOk Tryz.prog 58 (tabD.getD 58 TInfo.off) := q06 (by kernel_rfl) (by kernel_rfl) (by kernel_rfl)
theorem tok_59 : TOk Tryz.prog 59 (tabD.getD 59 TInfo.off) := q06 (by kernel_rfl) (by kernel_rfl) (by kernel_rfl)
theorem tok_60 : TOk Tryz.prog 60 (tabD.getD 60 TInfo.off) := q06 (by kernel_rfl) (by kernel_rfl) (by kernel_rfl)
theorem tok_61 : TOk Tryz.prog 61 (tabD.getD 61 TInfo.off) := q06 (by kernel_rfl) (by kernel_rfl) (by kernel_rfl)
theorem tok_62 : TOk Tryz.prog 62 (tabD.getD 62 TInfo.off) := q06 (by kernel_rfl) (by kernel_rfl) (by kernel_rfl)
theorem tok_63 : TOk Tryz.prog 63 (tabD.getD 63 TInfo.off) := q06 (by kernel_rfl) (by kernel_rfl) (by kernel_rfl)
theorem tok_64 : TOk Tryz.prog 64 (tabD.getD 64 TInfo.off) := q06 (by kernel_rfl) (by kernel_rfl) (by kernel_rfl)
theorem tok_65 : TOk Tryz.prog 65 (tabD.getD 65 TInfo.off) := q06 (by kernel_rfl) (by kernel_rfl) (by kernel_rfl)
theorem tok_66 : TOk Tryz.prog 66 (tabD.getD 66 TInfo.off) := q06 (by kernel_rfl) (by kernel_rfl) (by kernel_rfl)
theorem tok_67 : TOk Tryz.prog 67 (tabD.getD 67 TInfo.off) := q06 (by kernel_rfl) (by kernel_rfl) (by kernel_rfl)
theorem tok_68 : TOk Tryz.prog 68 (tabD.getD 68 TInfo.off) := q06 (by kernel_rfl) (by kernel_rfl) (by kernel_rfl)
theorem tok_69 : TOk Tryz.prog 69 (tabD.getD 69 TInfo.off) := q06 (by kernel_rfl) (by kernel_rfl) (by kernel_rfl)
theorem tok_70 : TOk Tryz.prog 70 (tabD.getD 70 TInfo.off) := q06 (by kernel_rfl) (by kernel_rfl) (by kernel_rfl)
theorem tok_71 : TOk Tryz.prog 71 (tabD.getD 71 TInfo.off) := q06 (by kernel_rfl) (by kernel_rfl) (by kernel_rfl)
theorem tok_72 : TOk Tryz.prog 72 (tabD.getD 72 TInfo.off) := q06 (by kernel_rfl) (by kernel_rfl) (by kernel_rfl)
theorem tok_73 : TOk Tryz.prog 73 (tabD.getD 73 TInfo.off) := q06 (by kernel_rfl) (by kernel_rfl) (by kernel_rfl)
theorem tok_74 : TOk Tryz.prog 74 (tabD.getD 74 TInfo.off) := q06 (by kernel_rfl) (by kernel_rfl) (by kernel_rfl)
theorem tok_75 : TOk Tryz.prog 75 (tabD.getD 75 TInfo.off) := q06 (by kernel_rfl) (by kernel_rfl) (by kernel_rfl)
theorem tok_76 : TOk Tryz.prog 76 (tabD.getD 76 TInfo.off) := q06 (by kernel_rfl) (by kernel_rfl) (by kernel_rfl)
theorem tok_77 : TOk Tryz.prog 77 (tabD.getD 77 TInfo.off) := q06 (by kernel_rfl) (by kernel_rfl) (by kernel_rfl)
theorem tok_78 : TOk Tryz.prog 78 (tabD.getD 78 TInfo.off) := q06 (by kernel_rfl) (by kernel_rfl) (by kernel_rfl)
theorem tok_79 : TOk Tryz.prog 79 (tabD.getD 79 TInfo.off) := q06 (by kernel_rfl) (by kernel_rfl) (by kernel_rfl)
theorem tok_80 : TOk Tryz.prog 80 (tabD.getD 80 TInfo.off) := q06 (by kernel_rfl) (by kernel_rfl) (by kernel_rfl)
theorem tok_81 : TOk Tryz.prog 81 (tabD.getD 81 TInfo.off) := q06 (by kernel_rfl) (by kernel_rfl) (by kernel_rfl)
theorem tok_82 : TOk Tryz.prog 82 (tabD.getD 82 TInfo.off) := q06 (by kernel_rfl) (by kernel_rfl) (by kernel_rfl)
theorem tok_83 : TOk Tryz.prog 83 (tabD.getD 83 TInfo.off) := q06 (by kernel_rfl) (by kernel_rfl) (by kernel_rfl)
theorem tok_84 : TOk Tryz.prog 84 (tabD.getD 84 TInfo.off) := q06 (by kernel_rfl) (by kernel_rfl) (by kernel_rfl)
theorem tok_85 : TOk Tryz.prog 85 (tabD.getD 85 TInfo.off) := q06 (by kernel_rfl) (by kernel_rfl) (by kernel_rfl)
theorem tok_86 : TOk Tryz.prog 86 (tabD.getD 86 TInfo.off) := q06 (by kernel_rfl) (by kernel_rfl) (by kernel_rfl)
theorem tok_87 : TOk Tryz.prog 87 (tabD.getD 87 TInfo.off) := q06 (by kernel_rfl) (by kernel_rfl) (by kernel_rfl)
theorem tok_88 : TOk Tryz.prog 88 (tabD.getD 88 TInfo.off) := q06 (by kernel_rfl) (by kernel_rfl) (by kernel_rfl)
theorem tok_89 : TOk Tryz.prog 89 (tabD.getD 89 TInfo.off) := q06 (by kernel_rfl) (by kernel_rfl) (by kernel_rfl)
theorem tok_90 : TOk Tryz.prog 90 (tabD.getD 90 TInfo.off) := q06 (by kernel_rfl) (by kernel_rfl) (by kernel_rfl)
theorem tok_91 : TOk Tryz.prog 91 (tabD.getD 91 TInfo.off) := q06 (by kernel_rfl) (by kernel_rfl) (by kernel_rfl)
theorem tok_92 : TOk Tryz.prog 92 (tabD.getD 92 TInfo.off) := q06 (by kernel_rfl) (by kernel_rfl) (by kernel_rfl)
theorem tok_93 : TOk Tryz.prog 93 (tabD.getD 93 TInfo.off) := q06 (by kernel_rfl) (by kernel_rfl) (by kernel_rfl)
theorem tok_94 : TOk Tryz.prog 94 (tabD.getD 94 TInfo.off) := q06 (by kernel_rfl) (by kernel_rfl) (by kernel_rfl)
theorem tok_95 : TOk Tryz.prog 95 (tabD.getD 95 TInfo.off) := q06 (by kernel_rfl) (by kernel_rfl) (by kernel_rfl)
theorem tok_96 : TOk Tryz.prog 96 (tabD.getD 96 TInfo.off) := q06 (by kernel_rfl) (by kernel_rfl) (by kernel_rfl)
theorem tok_97 : TOk Tryz.prog 97 (tabD.getD 97 TInfo.off) := q06 (by kernel_rfl) (by kernel_rfl) (by kernel_rfl)
theorem tok_98 : TOk Tryz.prog 98 (tabD.getD 98 TInfo.off) := q06 (by kernel_rfl) (by kernel_rfl) (by kernel_rfl)
theorem tok_99 : TOk Tryz.prog 99 (tabD.getD 99 TInfo.off) := q06 (by kernel_rfl) (by kernel_rfl) (by kernel_rfl)
theorem tok_100 : TOk Tryz.prog 100 (tabD.getD 100 TInfo.off) := q06 (by kernel_rfl) (by kernel_rfl) (by kernel_rfl)
theorem tok_101 : TOk Tryz.prog 101 (tabD.getD 101 TInfo.off) := q06 (by kernel_rfl) (by kernel_rfl) (by kernel_rfl)
theorem tok_102 : TOk Tryz.prog 102 (tabD.getD 102 TInfo.off) := q06 (by kernel_rfl) (by kernel_rfl) (by kernel_rfl)
theorem tok_103 : TOk Tryz.prog 103 (tabD.getD 103 TInfo.off) := q06 (by kernel_rfl) (by kernel_rfl) (by kernel_rfl)
theorem tok_104 : TOk Tryz.prog 104 (tabD.getD 104 TInfo.off) := q06 (by kernel_rfl) (by kernel_rfl) (by kernel_rfl)
theorem tok_105 : TOk Tryz.prog 105 (tabD.getD 105 TInfo.off) := q06 (by kernel_rfl) (by kernel_rfl) (by kernel_rfl)
theorem tok_106 : TOk Tryz.prog 106 (tabD.getD 106 TInfo.off) := q06 (by kernel_rfl) (by kernel_rfl) (by kernel_rfl)
theorem tok_107 : TOk Tryz.prog 107 (tabD.getD 107 TInfo.off) := q06 (by kernel_rfl) (by kernel_rfl) (by kernel_rfl)
theorem tok_108 : TOk Tryz.prog 108 (tabD.getD 108 TInfo.off) := q06 (by kernel_rfl) (by kernel_rfl) (by kernel_rfl)
theorem tok_109 : TOk Tryz.prog 109 (tabD.getD 109 TInfo.off) := q06 (by kernel_rfl) (by kernel_rfl) (by kernel_rfl)
theorem tok_110 : TOk Tryz.prog 110 (tabD.getD 110 TInfo.off) := q06 (by kernel_rfl) (by kernel_rfl) (by kernel_rfl)
theorem tok_111 : TOk Tryz.prog 111 (tabD.getD 111 TInfo.off) := q06 (by kernel_rfl) (by kernel_rfl) (by kernel_rfl)
theorem tok_112 : TOk Tryz.prog 112 (tabD.getD 112 TInfo.off) := q06 (by kernel_rfl) (by kernel_rfl) (by kernel_rfl)
theorem tok_113 : TOk Tryz.prog 113 (tabD.getD 113 TInfo.off) := q06 (by kernel_rfl) (by kernel_rfl) (by kernel_rfl)
theorem tok_114 : TOk Tryz.prog 114 (tabD.getD 114 TInfo.off) := q06 (by kernel_rfl) (by kernel_rfl) (by kernel_rfl)
theorem tok_115 : TOk Tryz.prog 115 (tabD.getD 115 TInfo.off) := q06 (by kernel_rfl) (by kernel_rfl) (by kernel_rfl)
theorem tok_116 : TOk Tryz.prog 116 (tabD.getD 116 TInfo.off) := q06 (by kernel_rfl) (by kernel_rfl) (by kernel_rfl)
theorem tok_117 : TOk Tryz.prog 117 (tabD.getD 117 TInfo.off) := q06 (by kernel_rfl) (by kernel_rfl) (by kernel_rfl)
theorem tok_118 : TOk Tryz.prog 118 (tabD.getD 118 TInfo.off) := q06 (by kernel_rfl) (by kernel_rfl) (by kernel_rfl)
theorem tok_119 : TOk Tryz.prog 119 (tabD.getD 119 TInfo.off) := q06 (by kernel_rfl) (by kernel_rfl) (by kernel_rfl)
theorem tok_120 : TOk Tryz.prog 120 (tabD.getD 120 TInfo.off) := q06 (by kernel_rfl) (by kernel_rfl) (by kernel_rfl)
theorem tok_121 : TOk Tryz.prog 121 (tabD.getD 121 TInfo.off) := q06 (by kernel_rfl) (by kernel_rfl) (by kernel_rfl)
theorem tok_122 : TOk Tryz.prog 122 (tabD.getD 122 TInfo.off) := q06 (by kernel_rfl) (by kernel_rfl) (by kernel_rfl)
theorem tok_123 : TOk Tryz.prog 123 (tabD.getD 123 TInfo.off) := q06 (by kernel_rfl) (by kernel_rfl) (by kernel_rfl)
theorem tok_124 : TOk Tryz.prog 124 (tabD.getD 124 TInfo.off) := q06 (by kernel_rfl) (by kernel_rfl) (by kernel_rfl)
theorem tok_125 : TOk Tryz.prog 125 (tabD.getD 125 TInfo.off) := q06 (by kernel_rfl) (by kernel_rfl) (by kernel_rfl)
theorem tok_126 : TOk Tryz.prog 126 (tabD.getD 126 TInfo.off) := q06 (by kernel_rfl) (by kernel_rfl) (by kernel_rfl)
theorem tok_127 : TOk Tryz.prog 127 (tabD.getD 127 TInfo.off) := q06 (by kernel_rfl) (by kernel_rfl) (by kernel_rfl)
theorem tok_128 : TOk Tryz.prog 128 (tabD.getD 128 TInfo.off) := q06 (by kernel_rfl) (by kernel_rfl) (by kernel_rfl)
theorem tok_129 : TOk Tryz.prog 129 (tabD.getD 129 TInfo.off) := q06 (by kernel_rfl) (by kernel_rfl) (by kernel_rfl)
theorem tok_130 : TOk Tryz.prog 130 (tabD.getD 130 TInfo.off) := q06 (by kernel_rfl) (by kernel_rfl) (by kernel_rfl)
theorem tok_131 : TOk Tryz.prog 131 (tabD.getD 131 TInfo.off) := q06 (by kernel_rfl) (by kernel_rfl) (by kernel_rfl)
theorem tok_132 : TOk Tryz.prog 132 (tabD.getD 132 TInfo.off) := q06 (by kernel_rfl) (by kernel_rfl) (by kernel_rfl)
theorem tok_133 : TOk Tryz.prog 133 (tabD.getD 133 TInfo.off) := q06 (by kernel_rfl) (by kernel_rfl) (by kernel_rfl)
theorem tok_134 : TOk Tryz.prog 134 (tabD.getD 134 TInfo.off) := q06 (by kernel_rfl) (by kernel_rfl) (by kernel_rfl)
theorem tok_135 : TOk Tryz.prog 135 (tabD.getD 135 TInfo.off) := q06 (by kernel_rfl) (by kernel_rfl) (by kernel_rfl)
theorem tok_136 : TOk Tryz.prog 136 (tabD.getD 136 TInfo.off) := q06 (by kernel_rfl) (by kernel_rfl) (by kernel_rfl)
theorem tok_137 : TOk Tryz.prog 137 (tabD.getD 137 TInfo.off) := q06 (by kernel_rfl) (by kernel_rfl) (by kernel_rfl)
theorem tok_138 : TOk Tryz.prog 138 (tabD.getD 138 TInfo.off) := q06 (by kernel_rfl) (by kernel_rfl) (by kernel_rfl)
theorem tok_139 : TOk Tryz.prog 139 (tabD.getD 139 TInfo.off) := q06 (by kernel_rfl) (by kernel_rfl) (by kernel_rfl)
theorem tok_140 : TOk Tryz.prog 140 (tabD.getD 140 TInfo.off) := q06 (by kernel_rfl) (by kernel_rfl) (by kernel_rfl)
theorem tok_141 : TOk Tryz.prog 141 (tabD.getD 141 TInfo.off) := q06 (by kernel_rfl) (by kernel_rfl) (by kernel_rfl)
theorem tok_142 : TOk Tryz.prog 142 (tabD.getD 142 TInfo.off) := q06 (by kernel_rfl) (by kernel_rfl) (by kernel_rfl)
theorem tok_143 : TOk Tryz.prog 143 (tabD.getD 143 TInfo.off) := q06 (by kernel_rfl) (by kernel_rfl) (by kernel_rfl)
theorem tok_144 : TOk Tryz.prog 144 (tabD.getD 144 TInfo.off) := q06 (by kernel_rfl) (by kernel_rfl) (by kernel_rfl)
theorem tok_145 : TOk Tryz.prog 145 (tabD.getD 145 TInfo.off) := q06 (by kernel_rfl) (by kernel_rfl) (by kernel_rfl)
theorem tok_146 : TOk Tryz.prog 146 (tabD.getD 146 TInfo.off) := q06 (by kernel_rfl) (by kernel_rfl) (by kernel_rfl)
theorem tok_147 : TOk Tryz.prog 147 (tabD.getD 147 TInfo.off) := q06 (by kernel_rfl) (by kernel_rfl) (by kernel_rfl)
theorem tok_148 : TOk Tryz.prog 148 (tabD.getD 148 TInfo.off) := q06 (by kernel_rfl) (by kernel_rfl) (by kernel_rfl)
theorem tok_149 : TOk Tryz.prog 149 (tabD.getD 149 TInfo.off) := q06 (by kernel_rfl) (by kernel_rfl) (by kernel_rfl)
theorem tok_150 : TOk Tryz.prog 150 (tabD.getD 150 TInfo.off) := q06 (by kernel_rfl) (by kernel_rfl) (by kernel_rfl)
theorem tok_151 : TOk Tryz.prog 151 (tabD.getD 151 TInfo.off) := q06 (by kernel_rfl) (by kernel_rfl) (by kernel_rfl)
theorem tok_152 : TOk Tryz.prog 152 (tabD.getD 152 TInfo.off) := q06 (by kernel_rfl) (by kernel_rfl) (by kernel_rfl)
theorem tok_153 : TOk Tryz.prog 153 (tabD.getD 153 TInfo.off) := q06 (by kernel_rfl) (by kernel_rfl) (by kernel_rfl)
theorem tok_154 : TOk Tryz.prog 154 (tabD.getD 154 TInfo.off) := q06 (by kernel_rfl) (by kernel_rfl) (by kernel_rfl)
theorem tok_155 : TOk Tryz.prog 155 (tabD.getD 155 TInfo.off) := q06 (by kernel_rfl) (by kernel_rfl) (by kernel_rfl)
theorem tok_156 : TOk Tryz.prog 156 (tabD.getD 156 TInfo.off) := q06 (by kernel_rfl) (by kernel_rfl) (by kernel_rfl)
theorem tok_157 : TOk Tryz.prog 157 (tabD.getD 157 TInfo.off) := q06 (by kernel_rfl) (by kernel_rfl) (by kernel_rfl)
theorem tok_158 : TOk Tryz.prog 158 (tabD.getD 158 TInfo.off) := q06 (by kernel_rfl) (by kernel_rfl) (by kernel_rfl)
theorem tok_159 : TOk Tryz.prog 159 (tabD.getD 159 TInfo.off) := q06 (by kernel_rfl) (by kernel_rfl) (by kernel_rfl)
theorem tok_160 : TOk Tryz.prog 160 (tabD.getD 160 TInfo.off) := q06 (by kernel_rfl) (by kernel_rfl) (by kernel_rfl)
theorem tok_161 : TOk Tryz.prog 161 (tabD.getD 161 TInfo.off) := q06 (by kernel_rfl) (by kernel_rfl) (by kernel_rfl)
theorem tok_162 : TOk Tryz.prog 162 (tabD.getD 162 TInfo.off) := q06 (by kernel_rfl) (by kernel_rfl) (by kernel_rfl)
theorem tok_163 : TOk Tryz.prog 163 (tabD.getD 163 TInfo.off) := q06 (by kernel_rfl) (by kernel_rfl) (by kernel_rfl)
theorem tok_164 : TOk Tryz.prog 164 (tabD.getD 164 TInfo.off) := q06 (by kernel_rfl) (by kernel_rfl) (by kernel_rfl)
theorem tok_165 : TOk Tryz.prog 165 (tabD.getD 165 TInfo.off) := q06 (by kernel_rfl) (by kernel_rfl) (by kernel_rfl)
theorem tok_166 : TOk Tryz.prog 166 (tabD.getD 166 TInfo.off) := q06 (by kernel_rfl) (by kernel_rfl) (by kernel_rfl)
theorem tok_167 : TOk Tryz.prog 167 (tabD.getD 167 TInfo.off) := q06 (by kernel_rfl) (by kernel_rfl) (by kernel_rfl)
theorem tok_168 : TOk Tryz.prog 168 (tabD.getD 168 TInfo.off) := q06 (by kernel_rfl) (by kernel_rfl) (by kernel_rfl)
theorem tok_169 : TOk Tryz.prog 169 (tabD.getD 169 TInfo.off) := q06 (by kernel_rfl) (by kernel_rfl) (by kernel_rfl)
theorem tok_170 : TOk Tryz.prog 170 (tabD.getD 170 TInfo.off) := q06 (by kernel_rfl) (by kernel_rfl) (by kernel_rfl)
theorem tok_171 : TOk Tryz.prog 171 (tabD.getD 171 TInfo.off) := q06 (by kernel_rfl) (by kernel_rfl) (by kernel_rfl)
theorem tok_172 : TOk Tryz.prog 172 (tabD.getD 172 TInfo.off) := q06 (by kernel_rfl) (by kernel_rfl) (by kernel_rfl)
theorem tok_173 : TOk Tryz.prog 173 (tabD.getD 173 TInfo.off) := q06 (by kernel_rfl) (by kernel_rfl) (by kernel_rfl)
theorem tok_174 : TOk Tryz.prog 174 (tabD.getD 174 TInfo.off) := q06 (by kernel_rfl) (by kernel_rfl) (by kernel_rfl)
theorem tok_175 : TOk Tryz.prog 175 (tabD.getD 175 TInfo.off) := q06 (by kernel_rfl) (by kernel_rfl) (by kernel_rfl)
theorem tok_176 : TOk Tryz.prog 176 (tabD.getD 176 TInfo.off) := q06 (by kernel_rfl) (by kernel_rfl) (by kernel_rfl)
theorem tok_177 : TOk Tryz.prog 177 (tabD.getD 177 TInfo.off) := q06 (by kernel_rfl) (by kernel_rfl) (by kernel_rfl)
theorem tok_178 : TOk Tryz.prog 178 (tabD.getD 178 TInfo.off) := q06 (by kernel_rfl) (by kernel_rfl) (by kernel_rfl)
theorem tok_179 : TOk Tryz.prog 179 (tabD.getD 179 TInfo.off) := q06 (by kernel_rfl) (by kernel_rfl) (by kernel_rfl)
theorem tok_180 : TOk Tryz.prog 180 (tabD.getD 180 TInfo.off) := q06 (by kernel_rfl) (by kernel_rfl) (by kernel_rfl)
theorem tok_181 : TOk Tryz.prog 181 (tabD.getD 181 TInfo.off) := q06 (by kernel_rfl) (by kernel_rfl) (by kernel_rfl)
theorem tok_182 : TOk Tryz.prog 182 (tabD.getD 182 TInfo.off) := q06 (by kernel_rfl) (by kernel_rfl) (by kernel_rfl)
theorem tok_183 : TOk Tryz.prog 183 (tabD.getD 183 TInfo.off) := q06 (by kernel_rfl) (by kernel_rfl) (by kernel_rfl)
theorem tok_184 : TOk Tryz.prog 184 (tabD.getD 184 TInfo.off) := q06 (by kernel_rfl) (by kernel_rfl) (by kernel_rfl)
theorem tok_185 : TOk Tryz.prog 185 (tabD.getD 185 TInfo.off) := q06 (by kernel_rfl) (by kernel_rfl) (by kernel_rfl)
theorem tok_186 : TOk Tryz.prog 186 (tabD.getD 186 TInfo.off) := q06 (by kernel_rfl) (by kernel_rfl) (by kernel_rfl)
theorem tok_187 : TOk Tryz.prog 187 (tabD.getD 187 TInfo.off) := q06 (by kernel_rfl) (by kernel_rfl) (by kernel_rfl)
theorem tok_188 : TOk Tryz.prog 188 (tabD.getD 188 TInfo.off) := q06 (by kernel_rfl) (by kernel_rfl) (by kernel_rfl)
theorem tok_189 : TOk Tryz.prog 189 (tabD.getD 189 TInfo.off) := q06 (by kernel_rfl) (by kernel_rfl) (by kernel_rfl)
theorem tok_190 : TOk Tryz.prog 190 (tabD.getD 190 TInfo.off) := q06 (by kernel_rfl) (by kernel_rfl) (by kernel_rfl)
theorem tok_191 : TOk Tryz.prog 191 (tabD.getD 191 TInfo.off) := q06 (by kernel_rfl) (by kernel_rfl) (by kernel_rfl)
theorem tok_192 : TOk Tryz.prog 192 (tabD.getD 192 TInfo.off) := q06 (by kernel_rfl) (by kernel_rfl) (by kernel_rfl)
theorem tok_193 : TOk Tryz.prog 193 (tabD.getD 193 TInfo.off) := q06 (by kernel_rfl) (by kernel_rfl) (by kernel_rfl)
theorem tok_194 : TOk Tryz.prog 194 (tabD.getD 194 TInfo.off) := q06 (by kernel_rfl) (by kernel_rfl) (by kernel_rfl)
theorem tok_195 : TOk Tryz.prog 195 (tabD.getD 195 TInfo.off) := q06 (by kernel_rfl) (by kernel_rfl) (by kernel_rfl)
theorem tok_196 : TOk Tryz.prog 196 (tabD.getD 196 TInfo.off) := q06 (by kernel_rfl) (by kernel_rfl) (by kernel_rfl)
theorem tok_197 : TOk Tryz.prog 197 (tabD.getD 197 TInfo.off) := q06 (by kernel_rfl) (by kernel_rfl) (by kernel_rfl)
theorem tok_198 : TOk Tryz.prog 198 (tabD.getD 198 TInfo.off) := q06 (by kernel_rfl) (by kernel_rfl) (by kernel_rfl)
theorem tok_199 : TOk Tryz.prog 199 (tabD.getD 199 TInfo.off) := q06 (by kernel_rfl) (by kernel_rfl) (by kernel_rfl)
theorem tok_200 : TOk Tryz.prog 200 (tabD.getD 200 TInfo.off) := q06 (by kernel_rfl) (by kernel_rfl) (by kernel_rfl)
theorem tok_201 : TOk Tryz.prog 201 (tabD.getD 201 TInfo.off) := q06 (by kernel_rfl) (by kernel_rfl) (by kernel_rfl)
theorem tok_202 : TOk Tryz.prog 202 (tabD.getD 202 TInfo.off) := q06 (by kernel_rfl) (by kernel_rfl) (by kernel_rfl)
theorem tok_203 : TOk Tryz.prog 203 (tabD.getD 203 TInfo.off) := q06 (by kernel_rfl) (by kernel_rfl) (by kernel_rfl)
theorem tok_204 : TOk Tryz.prog 204 (tabD.getD 204 TInfo.off) := q06 (by kernel_rfl) (by kernel_rfl) (by kernel_rfl)
theorem tok_205 : TOk Tryz.prog 205 (tabD.getD 205 TInfo.off) := q06 (by kernel_rfl) (by kernel_rfl) (by kernel_rfl)
theorem tok_206 : TOk Tryz.prog 206 (tabD.getD 206 TInfo.off) := q06 (by kernel_rfl) (by kernel_rfl) (by kernel_rfl)
theorem tok_207 : TOk Tryz.prog 207 (tabD.getD 207 TInfo.off) := q06 (by kernel_rfl) (by kernel_rfl) (by kernel_rfl)
theorem tok_208 : TOk Tryz.prog 208 (tabD.getD 208 TInfo.off) := q06 (by kernel_rfl) (by kernel_rfl) (by kernel_rfl)
theorem tok_209 : TOk Tryz.prog 209 (tabD.getD 209 TInfo.off) := q06 (by kernel_rfl) (by kernel_rfl) (by kernel_rfl)
theorem tok_210 : TOk Tryz.prog 210 (tabD.getD 210 TInfo.off) := q06 (by kernel_rfl) (by kernel_rfl) (by kernel_rfl)
theorem tok_211 : TOk Tryz.prog 211 (tabD.getD 211 TInfo.off) := q06 (by kernel_rfl) (by kernel_rfl) (by kernel_rfl)
theorem tok_212 : TOk Tryz.prog 212 (tabD.getD 212 TInfo.off) := q06 (by kernel_rfl) (by kernel_rfl) (by kernel_rfl)
theorem tok_213 : TOk Tryz.prog 213 (tabD.getD 213 TInfo.off) := q06 (by kernel_rfl) (by kernel_rfl) (by kernel_rfl)
theorem tok_214 : TOk Tryz.prog 214 (tabD.getD 214 TInfo.off) := q06 (by kernel_rfl) (by kernel_rfl) (by kernel_rfl)
theorem tok_215 : TOk Tryz.prog 215 (tabD.getD 215 TInfo.off) := q06 (by kernel_rfl) (by kernel_rfl) (by kernel_rfl)
theorem tok_216 : TOk Tryz.prog 216 (tabD.getD 216 TInfo.off) := q06 (by kernel_rfl) (by kernel_rfl) (by kernel_rfl)
theorem tok_217 : TOk Tryz.prog 217 (tabD.getD 217 TInfo.off) := q06 (by kernel_rfl) (by kernel_rfl) (by kernel_rfl)
theorem tok_218 : TOk Tryz.prog 218 (tabD.getD 218 TInfo.off) := q06 (by kernel_rfl) (by kernel_rfl) (by kernel_rfl)
theorem tok_219 : TOk Tryz.prog 219 (tabD.getD 219 TInfo.off) := q06 (by kernel_rfl) (by kernel_rfl) (by kernel_rfl)
theorem tok_220 : TOk Tryz.prog 220 (tabD.getD 220 TInfo.off) := q06 (by kernel_rfl) (by kernel_rfl) (by kernel_rfl)
theorem tok_221 : TOk Tryz.prog 221 (tabD.getD 221 TInfo.off) := q06 (by kernel_rfl) (by kernel_rfl) (by kernel_rfl)
theorem tok_222 : TOk Tryz.prog 222 (tabD.getD 222 TInfo.off) := q06 (by kernel_rfl) (by kernel_rfl) (by kernel_rfl)
theorem tok_223 : TOk Tryz.prog 223 (tabD.getD 223 TInfo.off) := q06 (by kernel_rfl) (by kernel_rfl) (by kernel_rfl)
theorem tok_224 : TOk Tryz.prog 224 (tabD.getD 224 TInfo.off) := q06 (by kernel_rfl) (by kernel_rfl) (by kernel_rfl)
theorem tok_225 : TOk Tryz.prog 225 (tabD.getD 225 TInfo.off) := q06 (by kernel_rfl) (by kernel_rfl) (by kernel_rfl)
theorem tok_226 : TOk Tryz.prog 226 (tabD.getD 226 TInfo.off) := q06 (by kernel_rfl) (by kernel_rfl) (by kernel_rfl)
theorem tok_227 : TOk Tryz.prog 227 (tabD.getD 227 TInfo.off) := q06 (by kernel_rfl) (by kernel_rfl) (by kernel_rfl)
theorem tok_228 : TOk Tryz.prog 228 (tabD.getD 228 TInfo.off) := q06 (by kernel_rfl) (by kernel_rfl) (by kernel_rfl)
theorem tok_229 : TOk Tryz.prog 229 (tabD.getD 229 TInfo.off) := q06 (by kernel_rfl) (by kernel_rfl) (by kernel_rfl)
theorem tok_230 : TOk Tryz.prog 230 (tabD.getD 230 TInfo.off) := q06 (by kernel_rfl) (by kernel_rfl) (by kernel_rfl)
theorem tok_231 : TOk Tryz.prog 231 (tabD.getD 231 TInfo.off) := q06 (by kernel_rfl) (by kernel_rfl) (by kernel_rfl)
theorem tok_232 : TOk Tryz.prog 232 (tabD.getD 232 TInfo.off) := q06 (by kernel_rfl) (by kernel_rfl) (by kernel_rfl)
theorem tok_233 : TOk Tryz.prog 233 (tabD.getD 233 TInfo.off) := q06 (by kernel_rfl) (by kernel_rfl) (by kernel_rfl)
theorem tok_234 : TOk Tryz.prog 234 (tabD.getD 234 TInfo.off) := q06 (by kernel_rfl) (by kernel_rfl) (by kernel_rfl)
theorem tok_235 : TOk Tryz.prog 235 (tabD.getD 235 TInfo.off) := q06 (by kernel_rfl) (by kernel_rfl) (by kernel_rfl)
theorem tok_236 : TOk Tryz.prog 236 (tabD.getD 236 TInfo.off) := q06 (by kernel_rfl) (by kernel_rfl) (by kernel_rfl)
theorem tok_237 : TOk Tryz.prog 237 (tabD.getD 237 TInfo.off) := q06 (by kernel_rfl) (by kernel_rfl) (by kernel_rfl)
theorem tok_238 : TOk Tryz.prog 238 (tabD.getD 238 TInfo.off) := q06 (by kernel_rfl) (by kernel_rfl) (by kernel_rfl)
theorem tok_239 : TOk Tryz.prog 239 (tabD.getD 239 TInfo.off) := q06 (by kernel_rfl) (by kernel_rfl) (by kernel_rfl)
theorem tok_240 : TOk Tryz.prog 240 (tabD.getD 240 TInfo.off) := q06 (by kernel_rfl) (by kernel_rfl) (by kernel_rfl)
theorem tok_241 : TOk Tryz.prog 241 (tabD.getD 241 TInfo.off) := q06 (by kernel_rfl) (by kernel_rfl) (by kernel_rfl)
theorem tok_242 : TOk Tryz.prog 242 (tabD.getD 242 TInfo.off) := q06 (by kernel_rfl) (by kernel_rfl) (by kernel_rfl)
theorem tok_243 : TOk Tryz.prog 243 (tabD.getD 243 TInfo.off) := q06 (by kernel_rfl) (by kernel_rfl) (by kernel_rfl)
theorem tok_244 : TOk Tryz.prog 244 (tabD.getD 244 TInfo.off) := q06 (by kernel_rfl) (by kernel_rfl) (by kernel_rfl)
theorem tok_245 : TOk Tryz.prog 245 (tabD.getD 245 TInfo.off) := q06 (by kernel_rfl) (by kernel_rfl) (by kernel_rfl)
theorem tok_246 : TOk Tryz.prog 246 (tabD.getD 246 TInfo.off) := q06 (by kernel_rfl) (by kernel_rfl) (by kernel_rfl)
theorem tok_247 : TOk Tryz.prog 247 (tabD.getD 247 TInfo.off) := q06 (by kernel_rfl) (by kernel_rfl) (by kernel_rfl)
theorem tok_248 : TOk Tryz.prog 248 (tabD.getD 248 TInfo.off) := q06 (by kernel_rfl) (by kernel_rfl) (by kernel_rfl)
theorem tok_249 : TOk Tryz.prog 249 (tabD.getD 249 TInfo.off) := q06 (by kernel_rfl) (by kernel_rfl) (by kernel_rfl)
theorem tok_250 : TOk Tryz.prog 250 (tabD.getD 250 TInfo.off) := q06 (by kernel_rfl) (by kernel_rfl) (by kernel_rfl)
theorem tok_251 : TOk Tryz.prog 251 (tabD.getD 251 TInfo.off) := q06 (by kernel_rfl) (by kernel_rfl) (by kernel_rfl)
theorem tok_252 : TOk Tryz.prog 252 (tabD.getD 252 TInfo.off) := q06 (by kernel_rfl) (by kernel_rfl) (by kernel_rfl)
theorem tok_253 : TOk Tryz.prog 253 (tabD.getD 253 TInfo.off) := q06 (by kernel_rfl) (by kernel_rfl) (by kernel_rfl)
theorem tok_254 : TOk Tryz.prog 254 (tabD.getD 254 TInfo.off) := q06 (by kernel_rfl) (by kernel_rfl) (by kernel_rfl)
theorem tok_255 : TOk Tryz.prog 255 (tabD.getD 255 TInfo.off) := q06 (by kernel_rfl) (by kernel_rfl) (by kernel_rfl)
theorem tok_256 : TOk Tryz.prog 256 (tabD.getD 256 TInfo.off) := q06 (by kernel_rfl) (by kernel_rfl) (by kernel_rfl)
theorem tok_257 : TOk Tryz.prog 257 (tabD.getD 257 TInfo.off) := q06 (by kernel_rfl) (by kernel_rfl) (by kernel_rfl)
theorem tok_258 : TOk Tryz.prog 258 (tabD.getD 258 TInfo.off) := q06 (by kernel_rfl) (by kernel_rfl) (by kernel_rfl)
theorem tok_259 : TOk Tryz.prog 259 (tabD.getD 259 TInfo.off) := q06 (by kernel_rfl) (by kernel_rfl) (by kernel_rfl)
theorem tok_260 : TOk Tryz.prog 260 (tabD.getD 260 TInfo.off) := q06 (by kernel_rfl) (by kernel_rfl) (by kernel_rfl)
theorem tok_261 : TOk Tryz.prog 261 (tabD.getD 261 TInfo.off) := q06 (by kernel_rfl) (by kernel_rfl) (by kernel_rfl)
theorem tok_262 : TOk Tryz.prog 262 (tabD.getD 262 TInfo.off) := q06 (by kernel_rfl) (by kernel_rfl) (by kernel_rfl)
theorem tok_263 : TOk Tryz.prog 263 (tabD.getD 263 TInfo.off) := q06 (by kernel_rfl) (by kernel_rfl) (by kernel_rfl)
theorem tok_264 : TOk Tryz.prog 264 (tabD.getD 264 TInfo.off) := q06 (by kernel_rfl) (by kernel_rfl) (by kernel_rfl)
theorem tok_265 : TOk Tryz.prog 265 (tabD.getD 265 TInfo.off) := q06 (by kernel_rfl) (by kernel_rfl) (by kernel_rfl)
theorem tok_266 : TOk Tryz.prog 266 (tabD.getD 266 TInfo.off) := q06 (by kernel_rfl) (by kernel_rfl) (by kernel_rfl)
theorem tok_267 : TOk Tryz.prog 267 (tabD.getD 267 TInfo.off) := q06 (by kernel_rfl) (by kernel_rfl) (by kernel_rfl)
theorem tok_268 : TOk Tryz.prog 268 (tabD.getD 268 TInfo.off) := q06 (by kernel_rfl) (by kernel_rfl) (by kernel_rfl)
theorem tok_269 : TOk Tryz.prog 269 (tabD.getD 269 TInfo.off) := q06 (by kernel_rfl) (by kernel_rfl) (by kernel_rfl)
theorem tok_270 : TOk Tryz.prog 270 (tabD.getD 270 TInfo.off) := q06 (by kernel_rfl) (by kernel_rfl) (by kernel_rfl)
theorem tok_271 : TOk Tryz.prog 271 (tabD.getD 271 TInfo.off) := q06 (by kernel_rfl) (by kernel_rfl) (by kernel_rfl)
theorem tok_272 : TOk Tryz.prog 272 (tabD.getD 272 TInfo.off) := q06 (by kernel_rfl) (by kernel_rfl) (by kernel_rfl)
theorem tok_273 : TOk Tryz.prog 273 (tabD.getD 273 TInfo.off) := q06 (by kernel_rfl) (by kernel_rfl) (by kernel_rfl)
theorem tok_274 : TOk Tryz.prog 274 (tabD.getD 274 TInfo.off) := q06 (by kernel_rfl) (by kernel_rfl) (by kernel_rfl)
theorem tok_275 : TOk Tryz.prog 275 (tabD.getD 275 TInfo.off) := q06 (by kernel_rfl) (by kernel_rfl) (by kernel_rfl)
theorem tok_276 : TOk Tryz.prog 276 (tabD.getD 276 TInfo.off) := q06 (by kernel_rfl) (by kernel_rfl) (by kernel_rfl)
theorem tok_277 : TOk Tryz.prog 277 (tabD.getD 277 TInfo.off) := q06 (by kernel_rfl) (by kernel_rfl) (by kernel_rfl)
theorem tok_278 : TOk Tryz.prog 278 (tabD.getD 278 TInfo.off) := q06 (by kernel_rfl) (by kernel_rfl) (by kernel_rfl)
theorem tok_279 : TOk Tryz.prog 279 (tabD.getD 279 TInfo.off) := q06 (by kernel_rfl) (by kernel_rfl) (by kernel_rfl)
theorem tok_280 : TOk Tryz.prog 280 (tabD.getD 280 TInfo.off) := q06 (by kernel_rfl) (by kernel_rfl) (by kernel_rfl)
theorem tok_281 : TOk Tryz.prog 281 (tabD.getD 281 TInfo.off) := q06 (by kernel_rfl) (by kernel_rfl) (by kernel_rfl)
theorem tok_282 : TOk Tryz.prog 282 (tabD.getD 282 TInfo.off) := q06 (by kernel_rfl) (by kernel_rfl) (by kernel_rfl)
theorem tok_283 : TOk Tryz.prog 283 (tabD.getD 283 TInfo.off) := q06 (by kernel_rfl) (by kernel_rfl) (by kernel_rfl)
theorem tok_284 : TOk Tryz.prog 284 (tabD.getD 284 TInfo.off) := q06 (by kernel_rfl) (by kernel_rfl) (by kernel_rfl)
theorem tok_285 : TOk Tryz.prog 285 (tabD.getD 285 TInfo.off) := q06 (by kernel_rfl) (by kernel_rfl) (by kernel_rfl)
theorem tok_286 : TOk Tryz.prog 286 (tabD.getD 286 TInfo.off) := q06 (by kernel_rfl) (by kernel_rfl) (by kernel_rfl)
theorem tok_287 : TOk Tryz.prog 287 (tabD.getD 287 TInfo.off) := q06 (by kernel_rfl) (by kernel_rfl) (by kernel_rfl)
theorem tok_288 : TOk Tryz.prog 288 (tabD.getD 288 TInfo.off) := q06 (by kernel_rfl) (by kernel_rfl) (by kernel_rfl)
theorem tok_289 : TOk Tryz.prog 289 (tabD.getD 289 TInfo.off) := q06 (by kernel_rfl) (by kernel_rfl) (by kernel_rfl)
theorem tok_290 : TOk Tryz.prog 290 (tabD.getD 290 TInfo.off) := q06 (by kernel_rfl) (by kernel_rfl) (by kernel_rfl)
theorem tok_291 : TOk Tryz.prog 291 (tabD.getD 291 TInfo.off) := q06 (by kernel_rfl) (by kernel_rfl) (by kernel_rfl)
theorem tok_292 : TOk Tryz.prog 292 (tabD.getD 292 TInfo.off) := q06 (by kernel_rfl) (by kernel_rfl) (by kernel_rfl)
theorem tok_293 : TOk Tryz.prog 293 (tabD.getD 293 TInfo.off) := q06 (by kernel_rfl) (by kernel_rfl) (by kernel_rfl)
theorem tok_294 : TOk Tryz.prog 294 (tabD.getD 294 TInfo.off) := q06 (by kernel_rfl) (by kernel_rfl) (by kernel_rfl)
theorem tok_295 : TOk Tryz.prog 295 (tabD.getD 295 TInfo.off) := q06 (by kernel_rfl) (by kernel_rfl) (by kernel_rfl)
theorem tok_296 : TOk Tryz.prog 296 (tabD.getD 296 TInfo.off) := q06 (by kernel_rfl) (by kernel_rfl) (by kernel_rfl)
theorem tok_297 : TOk Tryz.prog 297 (tabD.getD 297 TInfo.off) := q06 (by kernel_rfl) (by kernel_rfl) (by kernel_rfl)
theorem tok_298 : TOk Tryz.prog 298 (tabD.getD 298 TInfo.off) := q06 (by kernel_rfl) (by kernel_rfl) (by kernel_rfl)
theorem tok_299 : TOk Tryz.prog 299 (tabD.getD 299 TInfo.off) := q06 (by kernel_rfl) (by kernel_rfl) (by kernel_rfl)
theorem tok_300 : TOk Tryz.prog 300 (tabD.getD 300 TInfo.off) := q06 (by kernel_rfl) (by kernel_rfl) (by kernel_rfl)
theorem tok_301 : TOk Tryz.prog 301 (tabD.getD 301 TInfo.off) := q06 (by kernel_rfl) (by kernel_rfl) (by kernel_rfl)
theorem tok_302 : TOk Tryz.prog 302 (tabD.getD 302 TInfo.off) := q06 (by kernel_rfl) (by kernel_rfl) (by kernel_rfl)
theorem tok_303 : TOk Tryz.prog 303 (tabD.getD 303 TInfo.off) := q06 (by kernel_rfl) (by kernel_rfl) (by kernel_rfl)
theorem tok_304 : TOk Tryz.prog 304 (tabD.getD 304 TInfo.off) := q06 (by kernel_rfl) (by kernel_rfl) (by kernel_rfl)
theorem tok_305 : TOk Tryz.prog 305 (tabD.getD 305 TInfo.off) := q06 (by kernel_rfl) (by kernel_rfl) (by kernel_rfl)
theorem tok_306 : TOk Tryz.prog 306 (tabD.getD 306 TInfo.off) := q06 (by kernel_rfl) (by kernel_rfl) (by kernel_rfl)
theorem tok_307 : TOk Tryz.prog 307 (tabD.getD 307 TInfo.off) := q06 (by kernel_rfl) (by kernel_rfl) (by kernel_rfl)
theorem tok_308 : TOk Tryz.prog 308 (tabD.getD 308 TInfo.off) := q06 (by kernel_rfl) (by kernel_rfl) (by kernel_rfl)
theorem tok_309 : TOk Tryz.prog 309 (tabD.getD 309 TInfo.off) := q06 (by kernel_rfl) (by kernel_rfl) (by kernel_rfl)
theorem tok_310 : TOk Tryz.prog 310 (tabD.getD 310 TInfo.off) := q06 (by kernel_rfl) (by kernel_rfl) (by kernel_rfl)
theorem tok_311 : TOk Tryz.prog 311 (tabD.getD 311 TInfo.off) := q06 (by kernel_rfl) (by kernel_rfl) (by kernel_rfl)
theorem tok_312 : TOk Tryz.prog 312 (tabD.getD 312 TInfo.off) := q06 (by kernel_rfl) (by kernel_rfl) (by kernel_rfl)
theorem tok_313 : TOk Tryz.prog 313 (tabD.getD 313 TInfo.off) := q06 (by kernel_rfl) (by kernel_rfl) (by kernel_rfl)
theorem tok_314 : TOk Tryz.prog 314 (tabD.getD 314 TInfo.off) := q06 (by kernel_rfl) (by kernel_rfl) (by kernel_rfl)
theorem tok_315 : TOk Tryz.prog 315 (tabD.getD 315 TInfo.off) := q06 (by kernel_rfl) (by kernel_rfl) (by kernel_rfl)
theorem tok_316 : TOk Tryz.prog 316 (tabD.getD 316 TInfo.off) := q06 (by kernel_rfl) (by kernel_rfl) (by kernel_rfl)
theorem tok_317 : TOk Tryz.prog 317 (tabD.getD 317 TInfo.off) := q06 (by kernel_rfl) (by kernel_rfl) (by kernel_rfl)
theorem tok_318 : TOk Tryz.prog 318 (tabD.getD 318 TInfo.off) := q06 (by kernel_rfl) (by kernel_rfl) (by kernel_rfl)
theorem tok_319 : TOk Tryz.prog 319 (tabD.getD 319 TInfo.off) := q06 (by kernel_rfl) (by kernel_rfl) (by kernel_rfl)
theorem tok_320 : TOk Tryz.prog 320 (tabD.getD 320 TInfo.off) := q06 (by kernel_rfl) (by kernel_rfl) (by kernel_rfl)
theorem tok_321 : TOk Tryz.prog 321 (tabD.getD 321 TInfo.off) := q06 (by kernel_rfl) (by kernel_rfl) (by kernel_rfl)
theorem tok_322 : TOk Tryz.prog 322 (tabD.getD 322 TInfo.off) := q06 (by kernel_rfl) (by kernel_rfl) (by kernel_rfl)
theorem allT : AllT Tryz.prog 0 tabD := ⟨tok_0, tok_1, tok_2, tok_3, tok_4, tok_5, tok_6, tok_7, tok_8, tok_9, tok_10, tok_11, tok_12, tok_13, tok_14, tok_15, tok_16, tok_17, tok_18, tok_19, tok_20, tok_21, tok_22, tok_23, tok_24, tok_25, tok_26, tok_27, tok_28, tok_29, tok_30, tok_31, tok_32, tok_33, tok_34, tok_35, tok_36, tok_37, tok_38, tok_39, tok_40, tok_41, tok_42, tok_43, tok_44, tok_45, tok_46, tok_47, tok_48, tok_49, tok_50, tok_51, tok_52, tok_53, tok_54, tok_55, tok_56, tok_57, tok_58, tok_59, tok_60, tok_61, tok_62, tok_63, tok_64, tok_65, tok_66, tok_67, tok_68, tok_69, tok_70, tok_71, tok_72, tok_73, tok_74, tok_75, tok_76, tok_77, tok_78, tok_79, tok_80, tok_81, tok_82, tok_83, tok_84, tok_85, tok_86, tok_87, tok_88, tok_89, tok_90, tok_91, tok_92, tok_93, tok_94, tok_95, tok_96, tok_97, tok_98, tok_99, tok_100, tok_101, tok_102, tok_103, tok_104, tok_105, tok_106, tok_107, tok_108, tok_109, tok_110, tok_111, tok_112, tok_113, tok_114, tok_115, tok_116, tok_117, tok_118, tok_119, tok_120, tok_121, tok_122, tok_123, tok_124, tok_125, tok_126, tok_127, tok_128, tok_129, tok_130, tok_131, tok_132, tok_133, tok_134, tok_135, tok_136, tok_137, tok_138, tok_139, tok_140, tok_141, tok_142, tok_143, tok_144, tok_145, tok_146, tok_147, tok_148, tok_149, tok_150, tok_151, tok_152, tok_153, tok_154, tok_155, tok_156, tok_157, tok_158, tok_159, tok_160, tok_161, tok_162, tok_163, tok_164, tok_165, tok_166, tok_167, tok_168, tok_169, tok_170, tok_171, tok_172, tok_173, tok_174, tok_175, tok_176, tok_177, tok_178, tok_179, tok_180, tok_181, tok_182, tok_183, tok_184, tok_185, tok_186, tok_187, tok_188, tok_189, tok_190, tok_191, tok_192, tok_193, tok_194, tok_195, tok_196, tok_197, tok_198, tok_199, tok_200, tok_201, tok_202, tok_203, tok_204, tok_205, tok_206, tok_207, tok_208, tok_209, tok_210, tok_211, tok_212, tok_213, tok_214, tok_215, tok_216, tok_217, tok_218, tok_219, tok_220, tok_221, tok_222, tok_223, tok_224, tok_225, tok_226, tok_227, tok_228, tok_229, tok_230, tok_231, tok_232, tok_233, tok_234, tok_235, tok_236, tok_237, tok_238, tok_239, tok_240, tok_241, tok_242, tok_243, tok_244, tok_245, tok_246, tok_247, tok_248, tok_249, tok_250, tok_251, tok_252, tok_253, tok_254, tok_255, tok_256, tok_257, tok_258, tok_259, tok_260, tok_261, tok_262, tok_263, tok_264, tok_265, tok_266, tok_267, tok_268, tok_269, tok_270, tok_271, tok_272, tok_273, tok_274, tok_275, tok_276, tok_277, tok_278, tok_279, tok_280, tok_281, tok_282, tok_283, tok_284, tok_285, tok_286, tok_287, tok_288, tok_289, tok_290, tok_291, tok_292, tok_293, tok_294, tok_295, tok_296, tok_297, tok_298, tok_299, tok_300, tok_301, tok_302, tok_303, tok_304, tok_305, tok_306, tok_307, tok_308, tok_309, tok_310, tok_311, tok_312, tok_313, tok_314, tok_315, tok_316, tok_317, tok_318, tok_319, tok_320, tok_321, tok_322, trivial⟩
theorem hD (t : TypeId) : TOk Tryz.prog t (D t) := by have h := allT_get tabD 0 t allT; rwa [Nat.zero_add] at h
theorem hmix : Tryz.prog.follows .mixedOrders = true := by kernel_rfl
theorem D_all : D t_int64 = ⟨(.int .i64), 1, 8, .int .i64 0⟩ ∧ D t_int = ⟨(.int .i64), 1, 8, .int .i64 0⟩ ∧ D t_bool = ⟨.bool, 1, 1, .bool false⟩ ∧ D t_uint8 = ⟨(.int .u8), 1, 1, .int .u8 0⟩ ∧ D t_abi_BoundsErrorCode = ⟨(.int .u8), 1, 1, .int .u8 0⟩ ∧ D t_string = ⟨.str, 1, 16, .string ⟨⟨[]⟩⟩⟩ ∧ D t_uintptr = ⟨(.int .u64), 1, 8, .int .u64 0⟩ ∧ D t_api_Node = ⟨(.struct [(0, t_int), (1, t_int), (2, t_string), (3, t_string), (4, t_bool), (5, t_int)]), 6, 64, .agg ⟨[.int .i64 0, .int .i64 0, .string ⟨⟨[]⟩⟩, .string ⟨⟨[]⟩⟩, .bool false, .int .i64 0]⟩⟩ ∧ D t_api_Atom = ⟨(.struct [(0, t_int), (1, t_api_Node)]), 7, 72, .agg ⟨[.int .i64 0, .int .i64 0, .int .i64 0, .string ⟨⟨[]⟩⟩, .string ⟨⟨[]⟩⟩, .bool false, .int .i64 0]⟩⟩ ∧ D t_api_Val = ⟨(.slice t_api_Node), 1, 24, .slice none 0 0⟩ ∧ D t_L_api_Val = ⟨(.slice t_api_Val), 1, 24, .slice none 0 0⟩ ∧ D t_L_string = ⟨(.slice t_string), 1, 24, .slice none 0 0⟩ ∧ D t_api_Type = ⟨(.slice t_api_Ty), 1, 24, .slice none 0 0⟩ ∧ D t_api_Path = ⟨(.slice t_api_Step), 1, 24, .slice none 0 0⟩ ∧ D t_api_Errno = ⟨(.int .i64), 1, 8, .int .i64 0⟩ ∧ D t_api_Ty = ⟨(.struct [(0, t_int), (1, t_int), (2, t_string), (3, t_string), (4, t_int), (5, t_api_Node)]), 11, 120, .agg ⟨[.int .i64 0, .int .i64 0, .string ⟨⟨[]⟩⟩, .string ⟨⟨[]⟩⟩, .int .i64 0, .int .i64 0, .int .i64 0, .string ⟨⟨[]⟩⟩, .string ⟨⟨[]⟩⟩, .bool false, .int .i64 0]⟩⟩ ∧ D t_L_int = ⟨(.slice t_int), 1, 24, .slice none 0 0⟩ ∧ D t_api_Edit = ⟨(.struct [(0, t_int), (1, t_api_Path), (2, t_api_Val)]), 3, 56, .agg ⟨[.int .i64 0, .slice none 0 0, .slice none 0 0]⟩⟩ ∧ D t_api_Step = ⟨(.struct [(0, t_bool), (1, t_string), (2, t_int)]), 3, 32, .agg ⟨[.bool false, .string ⟨⟨[]⟩⟩, .int .i64 0]⟩⟩ ∧ D t_map_string_api_Val = ⟨(.map t_string t_api_Val), 1, 8, .map none⟩ ∧ D t_val_open = ⟨(.struct [(0, t_int), (1, t_int), (2, t_bool), (3, t_string)]), 4, 40, .agg ⟨[.int .i64 0, .int .i64 0, .bool false, .string ⟨⟨[]⟩⟩]⟩⟩ ∧ D t_L_val_open = ⟨(.slice t_val_open), 1, 24, .slice none 0 0⟩ ∧ D t_uint = ⟨(.int .u64), 1, 8, .int .u64 0⟩ ∧ D t_L_uint8 = ⟨(.slice t_uint8), 1, 24, .slice none 0 0⟩ ∧ D t_utf8_acceptRange = ⟨(.struct [(0, t_uint8), (1, t_uint8)]), 2, 2, .agg ⟨[.int .u8 0, .int .u8 0]⟩⟩ ∧ D t_uint32 = ⟨(.int .u32), 1, 4, .int .u32 0⟩ ∧ D t__0_P_runtime_PanicNilError = ⟨(.array 0 t_P_runtime_PanicNilError), 0, 0, .agg ⟨[]⟩⟩ ∧ D t_abi_TFlag = ⟨(.int .u8), 1, 1, .int .u8 0⟩ ∧ D t_abi_Kind = ⟨(.int .u8), 1, 1, .int .u8 0⟩ ∧ D t_abi_NameOff = ⟨(.int .i32), 1, 4, .int .i32 0⟩ ∧ D t_abi_TypeOff = ⟨(.int .i32), 1, 4, .int .i32 0⟩ := by (repeat' constructor) <;> rfl
theorem F_all : f_loupelaw02_ValSizes = 7 ∧ f_louperef02_Few = 32 ∧ f_loupelaw02_alive = 33 ∧ f_val_Field = 34 ∧ f_louperef02_Utf = 37 ∧ f_val_With = 38 ∧ f_val_Without = 40 ∧ f_louperef02_Right = 42 ∧ f_louperef02_All = 43 ∧ f_val_Names = 44 ∧ f_val_List = 45 ∧ f_val_Object = 91 ∧ f_val_Same = 92 ∧ f_val_Depth = 93 ∧ f_val_Right = 94 ∧ f_val_each = 95 ∧ f_louperef02_Rune = 98 ∧ f_val_Parts = 99 ∧ f_slices_BinarySearch_L_string_string_ = 100 ∧ f_val_laid = 101 ∧ f_slices_Insert_L_string_string_ = 102 ∧ f_slices_Insert_L_api_Val_api_Val_ = 103 ∧ f_louperef02_Next = 105 ∧ f_louperef02_plain = 106 ∧ f_louperef02_rising = 107 ∧ f_slices_Concat_api_Val_api_Node_ = 108 ∧ f_unicode_utf8_ValidString = 166 ∧ f_slices_Sorted_string_ = 167 ∧ f_slices_Values_L_string_string_ = 168 ∧ f_slices_Equal_api_Val_api_Node_ = 169 ∧ f_val_isPlain = 170 ∧ f_slices_ContainsFunc_L_val_open_val_open_ = 171 ∧ f_val_Right_1 = 172 ∧ f_val_each_1 = 173 ∧ f_val_behind = 174 ∧ f_slices_Clone_api_Val_api_Node_ = 175 ∧ f_louperef02_cont = 177 ∧ f_cmp_Less_string_ = 178 ∧ f_slices_isNaN_string_ = 179 ∧ f_louperef01_Right = 184 ∧ f_slices_Grow_api_Val_api_Node_ = 185 ∧ f_num_isFigures = 207 ∧ f_num_isPower = 210 ∧ f_cmp_isNaN_string_ = 220 ∧ f_slices_Collect_string_ = 223 ∧ f_slices_Sort_L_string_string_ = 224 ∧ f_slices_Values_L_string_string__1 = 225 ∧ f_num_Right = 226 ∧ f_slices_IndexFunc_L_val_open_val_open_ = 227 ∧ f_louperef01_figures = 230 ∧ f_strings_TrimFunc = 244 ∧ f_num_isFigure = 245 ∧ f_slices_AppendSeq_L_string_string_ = 258 ∧ f_strings_Trim = 261 := by (repeat' constructor) <;> rfl
end Lp

/-! LpC1 -/

namespace Lp
open Go Go.Proofs
def q2o : LC :=
  (.seq (.reg [⟨some 4, .assign (.const (.bool false)), none, false⟩])
  (.seq (.seq (.reg [⟨some 6, .move (.tmp 0), none, false⟩,
   ⟨some 7, .call ⟨.builtin .len, ⟨[(.tmp 6)]⟩, ⟨[t_api_Val]⟩⟩, none, false⟩,
   ⟨some 8, .move (.tmp 1), none, false⟩,
   ⟨some 9, .binOp .gtr t_int (.tmp 7) (.tmp 8) t_int, none, false⟩])
  (.cond (.tmp 9)
   (.seq (.reg [⟨some 4, .assign (.const (.bool false)), none, false⟩])
   .ret)
   .skip))
  (.seq (.seq (.reg [⟨some 5, .assign (.const (.int .i64 0)), none, false⟩])
  (.block 0 (.loop [true, false, false, false, false, true, false, false, false, false, false, false, false, false, false, false, false, false, false, false, false, false, false, false, false, false, false, false, false, false, false, false, false, false] none
   (.seq (.seq (.reg [⟨some 10, .move (.tmp 5), none, false⟩,
     ⟨some 11, .move (.tmp 0), none, false⟩,
     ⟨some 12, .call ⟨.builtin .len, ⟨[(.tmp 11)]⟩, ⟨[t_api_Val]⟩⟩, none, false⟩,
     ⟨some 13, .binOp .lss t_int (.tmp 10) (.tmp 12) t_int, none, false⟩])
    (.cond (.tmp 13)
     .skip
     (.exit 0)))
    (.seq (.block 1 (.seq (.reg [⟨some 16, .move (.tmp 0), none, false⟩,
      ⟨some 17, .move (.tmp 5), none, false⟩,
      ⟨some 18, .indexAddr t_api_Val (.tmp 16) (.tmp 17), none, false⟩,
      ⟨some 19, .fieldAddr t_api_Node (.tmp 18) 3, none, false⟩,
      ⟨some 20, .load t_string (.tmp 19), none, false⟩,
      ⟨some 21, .call ⟨.builtin .len, ⟨[(.tmp 20)]⟩, ⟨[t_string]⟩⟩, none, false⟩,
      ⟨some 22, .binOp .gtr t_int (.tmp 21) (.const (.int .i64 200)) t_int, none, false⟩,
      ⟨some 23, .move (.tmp 22), none, false⟩,
      ⟨some 24, .move (.tmp 0), some (some 23, false), false⟩,
      ⟨some 25, .move (.tmp 5), some (some 23, false), false⟩,
      ⟨some 26, .indexAddr t_api_Val (.tmp 24) (.tmp 25), some (some 23, false), false⟩,
      ⟨some 27, .fieldAddr t_api_Node (.tmp 26) 2, some (some 23, false), false⟩,
      ⟨some 28, .load t_string (.tmp 27), some (some 23, false), false⟩,
      ⟨some 29, .call ⟨.builtin .len, ⟨[(.tmp 28)]⟩, ⟨[t_string]⟩⟩, some (some 23, false), false⟩,
      ⟨some 30, .binOp .gtr t_int (.tmp 29) (.const (.int .i64 200)) t_int, some (some 23, false), false⟩,
      ⟨some 31, .pick (.tmp 23) (.const (.bool true)) (.tmp 30), none, false⟩])
     (.cond (.tmp 31)
      (.seq (.reg [⟨some 4, .assign (.const (.bool false)), none, false⟩])
      .ret)
      .skip)))
    (.reg [⟨some 14, .move (.tmp 5), none, false⟩,
     ⟨some 15, .binOp .add t_int (.tmp 14) (.const (.int .i64 1)) t_int, none, false⟩,
     ⟨some 5, .assign (.tmp 15), none, false⟩]))))))
  (.seq (.reg [⟨some 32, .move (.tmp 0), none, false⟩,
   ⟨some 33, .call ⟨.value (.func f_louperef02_Right), ⟨[(.tmp 32)]⟩, ⟨[t_api_Val]⟩⟩, none, false⟩,
   ⟨some 4, .assign (.tmp 33), none, false⟩])
  .ret))))
theorem k_louperef02_Few : FnOk Tryz.prog f_louperef02_Few 34 [.tmp 4] q2o := ⟨_, _, Tryz.func32, by kernel_rfl, rfl, Tryz.ntmps32, rfl, by kernel_rfl⟩
def q4q : LC :=
  (.seq (.reg [⟨some 4, .assign (.const (.bool false)), none, false⟩])
  (.seq (.reg [⟨some 7, .move (.tmp 0), none, false⟩,
   ⟨some 8, .call ⟨.builtin .len, ⟨[(.tmp 7)]⟩, ⟨[t_L_api_Val]⟩⟩, none, false⟩,
   ⟨some 5, .assign (.tmp 8), none, false⟩])
  (.seq (.seq (.reg [⟨some 6, .assign (.const (.int .i64 0)), none, false⟩])
  (.block 0 (.loop [true, true, false, false, false, true, true, false, false, false, false, false, false, false, false, false, false, false, false, false, false, false, false, false, false, false, false, false, false, false, false, false, false, false, false, false, false] none
   (.seq (.seq (.reg [⟨some 9, .move (.tmp 6), none, false⟩,
     ⟨some 10, .move (.tmp 0), none, false⟩,
     ⟨some 11, .call ⟨.builtin .len, ⟨[(.tmp 10)]⟩, ⟨[t_L_api_Val]⟩⟩, none, false⟩,
     ⟨some 12, .binOp .lss t_int (.tmp 9) (.tmp 11) t_int, none, false⟩])
    (.cond (.tmp 12)
     .skip
     (.exit 0)))
    (.seq (.block 1 (.seq (.reg [⟨some 15, .move (.tmp 5), none, false⟩,
      ⟨some 16, .move (.tmp 0), none, false⟩,
      ⟨some 17, .move (.tmp 6), none, false⟩,
      ⟨some 18, .indexAddr t_L_api_Val (.tmp 16) (.tmp 17), none, false⟩,
      ⟨some 19, .load t_api_Val (.tmp 18), none, false⟩,
      ⟨some 20, .call ⟨.builtin .len, ⟨[(.tmp 19)]⟩, ⟨[t_api_Val]⟩⟩, none, false⟩,
      ⟨some 21, .binOp .add t_int (.tmp 15) (.tmp 20) t_int, none, false⟩,
      ⟨some 5, .assign (.tmp 21), none, false⟩])
     (.seq (.reg [⟨some 22, .move (.tmp 5), none, false⟩,
      ⟨some 23, .move (.tmp 1), none, false⟩,
      ⟨some 24, .binOp .gtr t_int (.tmp 22) (.tmp 23) t_int, none, false⟩,
      ⟨some 25, .move (.tmp 24), none, false⟩,
      ⟨some 26, .move (.tmp 0), some (some 25, false), false⟩,
      ⟨some 27, .move (.tmp 6), some (some 25, false), false⟩,
      ⟨some 28, .indexAddr t_L_api_Val (.tmp 26) (.tmp 27), some (some 25, false), false⟩,
      ⟨some 29, .load t_api_Val (.tmp 28), some (some 25, false), false⟩,
      ⟨some 30, .move (.tmp 1), some (some 25, false), false⟩,
      ⟨some 31, .call ⟨.value (.func f_louperef02_Few), ⟨[(.tmp 29), (.tmp 30)]⟩, ⟨[t_api_Val, t_int]⟩⟩, some (some 25, false), false⟩,
      ⟨some 32, .unOp .not t_bool (.tmp 31), some (some 25, false), false⟩,
      ⟨some 33, .pick (.tmp 25) (.const (.bool true)) (.tmp 32), none, false⟩])
     (.cond (.tmp 33)
      (.seq (.reg [⟨some 4, .assign (.const (.bool false)), none, false⟩])
      .ret)
      .skip))))
    (.reg [⟨some 13, .move (.tmp 6), none, false⟩,
     ⟨some 14, .binOp .add t_int (.tmp 13) (.const (.int .i64 1)) t_int, none, false⟩,
     ⟨some 6, .assign (.tmp 14), none, false⟩]))))))
  (.seq (.reg [⟨some 34, .move (.tmp 5), none, false⟩,
   ⟨some 35, .move (.tmp 1), none, false⟩,
   ⟨some 36, .binOp .leq t_int (.tmp 34) (.tmp 35) t_int, none, false⟩,
   ⟨some 4, .assign (.tmp 36), none, false⟩])
  .ret))))
theorem k_louperef02_All : FnOk Tryz.prog f_louperef02_All 37 [.tmp 4] q4q := ⟨_, _, Tryz.func43, by kernel_rfl, rfl, Tryz.ntmps43, rfl, by kernel_rfl⟩
def q4r : LC :=
  (.seq (.reg [⟨some 2, .assign (.const (.bool false)), none, false⟩])
  (.seq (.reg [⟨some 3, .assign (.const (.int .i64 0)), none, false⟩])
  (.seq (.block 0 (.loop [true, false, false, true, false, false, false, false, false, false, false, false, false, false, false, false, false] none
   (.seq (.seq (.reg [⟨some 5, .move (.tmp 3), none, false⟩,
     ⟨some 6, .move (.tmp 0), none, false⟩,
     ⟨some 7, .call ⟨.builtin .len, ⟨[(.tmp 6)]⟩, ⟨[t_string]⟩⟩, none, false⟩,
     ⟨some 8, .binOp .lss t_int (.tmp 5) (.tmp 7) t_int, none, false⟩])
    (.cond (.tmp 8)
     .skip
     (.exit 0)))
    (.block 1 (.seq (.reg [⟨some 9, .move (.tmp 0), none, false⟩,
      ⟨some 10, .move (.tmp 3), none, false⟩,
      ⟨some 11, .call ⟨.value (.func f_louperef02_Rune), ⟨[(.tmp 9), (.tmp 10)]⟩, ⟨[t_string, t_int]⟩⟩, none, false⟩,
      ⟨some 4, .assign (.tmp 11), none, false⟩])
     (.seq (.seq (.reg [⟨some 12, .move (.tmp 4), none, false⟩,
      ⟨some 13, .binOp .eql t_int (.tmp 12) (.const (.int .i64 0)) t_int, none, false⟩])
     (.cond (.tmp 13)
      (.seq (.reg [⟨some 2, .assign (.const (.bool false)), none, false⟩])
      .ret)
      .skip))
     (.reg [⟨some 14, .move (.tmp 3), none, false⟩,
      ⟨some 15, .move (.tmp 4), none, false⟩,
      ⟨some 16, .binOp .add t_int (.tmp 14) (.tmp 15) t_int, none, false⟩,
      ⟨some 3, .assign (.tmp 16), none, false⟩])))))))
  (.seq (.reg [⟨some 2, .assign (.const (.bool true)), none, false⟩])
  .ret))))
theorem k_louperef02_Utf : FnOk Tryz.prog f_louperef02_Utf 17 [.tmp 2] q4r := ⟨_, _, Tryz.func37, by kernel_rfl, rfl, Tryz.ntmps37, rfl, by kernel_rfl⟩
def q18 : LC :=
  (.seq (.reg [⟨some 2, .assign (.const (.bool false)), none, false⟩])
  (.seq (.seq (.reg [⟨some 4, .move (.tmp 0), none, false⟩,
   ⟨some 5, .call ⟨.builtin .len, ⟨[(.tmp 4)]⟩, ⟨[t_api_Val]⟩⟩, none, false⟩,
   ⟨some 6, .binOp .eql t_int (.tmp 5) (.const (.int .i64 0)) t_int, none, false⟩,
   ⟨some 7, .move (.tmp 6), none, false⟩,
   ⟨some 8, .move (.tmp 0), some (some 7, false), false⟩,
   ⟨some 9, .indexAddr t_api_Val (.tmp 8) (.const (.int .i64 0)), some (some 7, false), false⟩,
   ⟨some 10, .fieldAddr t_api_Node (.tmp 9) 2, some (some 7, false), false⟩,
   ⟨some 11, .load t_string (.tmp 10), some (some 7, false), false⟩,
   ⟨some 12, .binOp .neq t_string (.tmp 11) (.const (.string ⟨⟨[]⟩⟩)) t_string, some (some 7, false), false⟩,
   ⟨some 13, .pick (.tmp 7) (.const (.bool true)) (.tmp 12), none, false⟩,
   ⟨some 14, .move (.tmp 13), none, false⟩,
   ⟨some 15, .move (.tmp 0), some (some 14, false), false⟩,
   ⟨some 16, .call ⟨.value (.func f_louperef02_Next), ⟨[(.tmp 15), (.const (.int .i64 0))]⟩, ⟨[t_api_Val, t_int]⟩⟩, some (some 14, false), false⟩,
   ⟨some 17, .move (.tmp 0), some (some 14, false), false⟩,
   ⟨some 18, .call ⟨.builtin .len, ⟨[(.tmp 17)]⟩, ⟨[t_api_Val]⟩⟩, some (some 14, false), false⟩,
   ⟨some 19, .binOp .neq t_int (.tmp 16) (.tmp 18) t_int, some (some 14, false), false⟩,
   ⟨some 20, .pick (.tmp 14) (.const (.bool true)) (.tmp 19), none, false⟩])
  (.cond (.tmp 20)
   (.seq (.reg [⟨some 2, .assign (.const (.bool false)), none, false⟩])
   .ret)
   .skip))
  (.seq (.seq (.reg [⟨some 3, .assign (.const (.int .i64 0)), none, false⟩])
  (.block 0 (.loop [true, false, false, true, false, false, false, false, false, false, false, false, false, false, false, false, false, false, false, false, false, false, false, false, false, false, false, false, false, false, false, false, false, false, false, false, false, false, false] none
   (.seq (.seq (.reg [⟨some 21, .move (.tmp 3), none, false⟩,
     ⟨some 22, .move (.tmp 0), none, false⟩,
     ⟨some 23, .call ⟨.builtin .len, ⟨[(.tmp 22)]⟩, ⟨[t_api_Val]⟩⟩, none, false⟩,
     ⟨some 24, .binOp .lss t_int (.tmp 21) (.tmp 23) t_int, none, false⟩])
    (.cond (.tmp 24)
     .skip
     (.exit 0)))
    (.seq (.block 1 (.seq (.reg [⟨some 27, .move (.tmp 0), none, false⟩,
      ⟨some 28, .move (.tmp 3), none, false⟩,
      ⟨some 29, .indexAddr t_api_Val (.tmp 27) (.tmp 28), none, false⟩,
      ⟨some 30, .load t_api_Node (.tmp 29), none, false⟩,
      ⟨some 31, .call ⟨.value (.func f_louperef02_plain), ⟨[(.tmp 30)]⟩, ⟨[t_api_Node]⟩⟩, none, false⟩,
      ⟨some 32, .unOp .not t_bool (.tmp 31), none, false⟩,
      ⟨some 33, .move (.tmp 32), none, false⟩,
      ⟨some 34, .move (.tmp 0), some (some 33, false), false⟩,
      ⟨some 35, .move (.tmp 3), some (some 33, false), false⟩,
      ⟨some 36, .call ⟨.value (.func f_louperef02_rising), ⟨[(.tmp 34), (.tmp 35)]⟩, ⟨[t_api_Val, t_int]⟩⟩, some (some 33, false), false⟩,
      ⟨some 37, .unOp .not t_bool (.tmp 36), some (some 33, false), false⟩,
      ⟨some 38, .pick (.tmp 33) (.const (.bool true)) (.tmp 37), none, false⟩])
     (.cond (.tmp 38)
      (.seq (.reg [⟨some 2, .assign (.const (.bool false)), none, false⟩])
      .ret)
      .skip)))
    (.reg [⟨some 25, .move (.tmp 3), none, false⟩,
     ⟨some 26, .binOp .add t_int (.tmp 25) (.const (.int .i64 1)) t_int, none, false⟩,
     ⟨some 3, .assign (.tmp 26), none, false⟩]))))))
  (.seq (.reg [⟨some 2, .assign (.const (.bool true)), none, false⟩])
  .ret))))
theorem k_louperef02_Right : FnOk Tryz.prog f_louperef02_Right 39 [.tmp 2] q18 := ⟨_, _, Tryz.func42, by kernel_rfl, rfl, Tryz.ntmps42, rfl, by kernel_rfl⟩
def q6e : LC :=
  (.seq (.reg [⟨some 2, .assign (.const (.slice none 0 0)), none, false⟩])
  (.seq (.reg [⟨some 3, .alloc t_L_string, none, false⟩])
  (.seq (.seq (.reg [⟨some 5, .move (.tmp 0), none, false⟩,
   ⟨some 6, .indexAddr t_api_Val (.tmp 5) (.const (.int .i64 0)), none, false⟩,
   ⟨some 7, .fieldAddr t_api_Node (.tmp 6) 0, none, false⟩,
   ⟨some 8, .load t_int (.tmp 7), none, false⟩,
   ⟨some 9, .binOp .eql t_int (.tmp 8) (.const (.int .i64 6)) t_int, none, false⟩])
  (.cond (.tmp 9)
   (.seq (.reg [⟨some 10, .move (.tmp 0), none, false⟩,
    ⟨some 11, .call ⟨.value (.func f_val_each), ⟨[(.tmp 10)]⟩, ⟨[t_api_Val]⟩⟩, none, false⟩])
   (.block 0 (.rf (.tmp 11) [12, 13] none
     (.reg [⟨some 4, .assign (.tmp 12), none, false⟩])
     (.block 1 (.reg [⟨some 14, .load t_L_string (.tmp 3), none, false⟩,
       ⟨some 15, .move (.tmp 4), none, false⟩,
       ⟨some 16, .buildSlice t_L_string 1 ⟨[(0, (.tmp 15))]⟩, none, false⟩,
       ⟨some 17, .call ⟨.builtin .append, ⟨[(.tmp 14), (.tmp 16)]⟩, ⟨[t_L_string, t_L_string]⟩⟩, none, false⟩,
       ⟨none, .store t_L_string (.tmp 3) (.tmp 17), none, false⟩])))))
   .skip))
  (.seq (.reg [⟨some 18, .load t_L_string (.tmp 3), none, false⟩,
   ⟨some 2, .assign (.tmp 18), none, false⟩])
  .ret))))
theorem k_val_Names : FnOk Tryz.prog f_val_Names 19 [.tmp 2] q6e := ⟨_, _, Tryz.func44, by kernel_rfl, rfl, Tryz.ntmps44, rfl, by kernel_rfl⟩
def q6f : LC :=
  (.seq (.reg [⟨some 2, .assign (.const (.slice none 0 0)), none, false⟩])
  (.seq (.reg [⟨some 3, .alloc t_L_api_Val, none, false⟩])
  (.seq (.seq (.reg [⟨some 6, .move (.tmp 0), none, false⟩,
   ⟨some 7, .call ⟨.value (.func f_val_each), ⟨[(.tmp 6)]⟩, ⟨[t_api_Val]⟩⟩, none, false⟩])
  (.block 0 (.rf (.tmp 7) [8, 9] none
    (.reg [⟨some 5, .assign (.tmp 9), none, false⟩])
    (.block 1 (.reg [⟨some 10, .load t_L_api_Val (.tmp 3), none, false⟩,
      ⟨some 11, .move (.tmp 5), none, false⟩,
      ⟨some 12, .buildSlice t_L_api_Val 1 ⟨[(0, (.tmp 11))]⟩, none, false⟩,
      ⟨some 13, .call ⟨.builtin .append, ⟨[(.tmp 10), (.tmp 12)]⟩, ⟨[t_L_api_Val, t_L_api_Val]⟩⟩, none, false⟩,
      ⟨none, .store t_L_api_Val (.tmp 3) (.tmp 13), none, false⟩])))))
  (.seq (.reg [⟨some 14, .load t_L_api_Val (.tmp 3), none, false⟩,
   ⟨some 2, .assign (.tmp 14), none, false⟩])
  .ret))))
theorem k_val_Parts : FnOk Tryz.prog f_val_Parts 15 [.tmp 2] q6f := ⟨_, _, Tryz.func99, by kernel_rfl, rfl, Tryz.ntmps99, rfl, by kernel_rfl⟩
def q0e : LC :=
  (.seq (.reg [⟨some 4, .assign (.const (.int .i64 0)), none, false⟩])
  (.seq (.reg [⟨some 6, .move (.tmp 0), none, false⟩,
   ⟨some 7, .move (.tmp 1), none, false⟩,
   ⟨some 8, .index t_string (.tmp 6) (.tmp 7), none, false⟩,
   ⟨some 5, .assign (.tmp 8), none, false⟩])
  (.seq (.block 0 (.seq (.reg [⟨some 10, .move (.tmp 5), none, false⟩,
    ⟨some 11, .binOp .lss t_uint8 (.tmp 10) (.const (.int .u8 128)) t_uint8, none, false⟩,
    ⟨some 9, .assign (.tmp 11), none, false⟩])
   (.cond (.tmp 9)
    (.seq (.reg [⟨some 4, .assign (.const (.int .i64 1)), none, false⟩])
    .ret)
    (.seq (.reg [⟨some 13, .move (.tmp 5), none, false⟩,
     ⟨some 14, .binOp .geq t_uint8 (.tmp 13) (.const (.int .u8 194)) t_uint8, none, false⟩,
     ⟨some 15, .move (.tmp 14), none, false⟩,
     ⟨some 16, .move (.tmp 5), some (some 15, true), false⟩,
     ⟨some 17, .binOp .lss t_uint8 (.tmp 16) (.const (.int .u8 224)) t_uint8, some (some 15, true), false⟩,
     ⟨some 18, .pick (.tmp 15) (.tmp 17) (.const (.bool false)), none, false⟩,
     ⟨some 19, .move (.tmp 18), none, false⟩,
     ⟨some 20, .move (.tmp 0), some (some 19, true), false⟩,
     ⟨some 21, .move (.tmp 1), some (some 19, true), false⟩,
     ⟨some 22, .binOp .add t_int (.tmp 21) (.const (.int .i64 1)) t_int, some (some 19, true), false⟩,
     ⟨some 23, .call ⟨.value (.func f_louperef02_cont), ⟨[(.tmp 20), (.tmp 22)]⟩, ⟨[t_string, t_int]⟩⟩, some (some 19, true), false⟩,
     ⟨some 24, .pick (.tmp 19) (.tmp 23) (.const (.bool false)), none, false⟩,
     ⟨some 12, .assign (.tmp 24), none, false⟩])
    (.cond (.tmp 12)
     (.seq (.reg [⟨some 4, .assign (.const (.int .i64 2)), none, false⟩])
     .ret)
     (.seq (.reg [⟨some 26, .move (.tmp 5), none, false⟩,
      ⟨some 27, .binOp .geq t_uint8 (.tmp 26) (.const (.int .u8 224)) t_uint8, none, false⟩,
      ⟨some 28, .move (.tmp 27), none, false⟩,
      ⟨some 29, .move (.tmp 5), some (some 28, true), false⟩,
      ⟨some 30, .binOp .lss t_uint8 (.tmp 29) (.const (.int .u8 240)) t_uint8, some (some 28, true), false⟩,
      ⟨some 31, .pick (.tmp 28) (.tmp 30) (.const (.bool false)), none, false⟩,
      ⟨some 32, .move (.tmp 31), none, false⟩,
      ⟨some 33, .move (.tmp 0), some (some 32, true), false⟩,
      ⟨some 34, .move (.tmp 1), some (some 32, true), false⟩,
      ⟨some 35, .binOp .add t_int (.tmp 34) (.const (.int .i64 1)) t_int, some (some 32, true), false⟩,
      ⟨some 36, .call ⟨.value (.func f_louperef02_cont), ⟨[(.tmp 33), (.tmp 35)]⟩, ⟨[t_string, t_int]⟩⟩, some (some 32, true), false⟩,
      ⟨some 37, .pick (.tmp 32) (.tmp 36) (.const (.bool false)), none, false⟩,
      ⟨some 38, .move (.tmp 37), none, false⟩,
      ⟨some 39, .move (.tmp 0), some (some 38, true), false⟩,
      ⟨some 40, .move (.tmp 1), some (some 38, true), false⟩,
      ⟨some 41, .binOp .add t_int (.tmp 40) (.const (.int .i64 2)) t_int, some (some 38, true), false⟩,
      ⟨some 42, .call ⟨.value (.func f_louperef02_cont), ⟨[(.tmp 39), (.tmp 41)]⟩, ⟨[t_string, t_int]⟩⟩, some (some 38, true), false⟩,
      ⟨some 43, .pick (.tmp 38) (.tmp 42) (.const (.bool false)), none, false⟩,
      ⟨some 25, .assign (.tmp 43), none, false⟩])
     (.cond (.tmp 25)
      (.seq (.seq (.reg [⟨some 44, .move (.tmp 5), none, false⟩,
       ⟨some 45, .binOp .eql t_uint8 (.tmp 44) (.const (.int .u8 224)) t_uint8, none, false⟩,
       ⟨some 46, .move (.tmp 45), none, false⟩,
       ⟨some 47, .move (.tmp 0), some (some 46, true), false⟩,
       ⟨some 48, .move (.tmp 1), some (some 46, true), false⟩,
       ⟨some 49, .binOp .add t_int (.tmp 48) (.const (.int .i64 1)) t_int, some (some 46, true), false⟩,
       ⟨some 50, .index t_string (.tmp 47) (.tmp 49), some (some 46, true), false⟩,
       ⟨some 51, .binOp .lss t_uint8 (.tmp 50) (.const (.int .u8 160)) t_uint8, some (some 46, true), false⟩,
       ⟨some 52, .pick (.tmp 46) (.tmp 51) (.const (.bool false)), none, false⟩,
       ⟨some 53, .move (.tmp 52), none, false⟩,
       ⟨some 54, .move (.tmp 5), some (some 53, false), false⟩,
       ⟨some 55, .binOp .eql t_uint8 (.tmp 54) (.const (.int .u8 237)) t_uint8, some (some 53, false), false⟩,
       ⟨some 56, .move (.tmp 55), some (some 53, false), false⟩,
       ⟨some 57, .move (.tmp 0), some (some 56, true), false⟩,
       ⟨some 58, .move (.tmp 1), some (some 56, true), false⟩,
       ⟨some 59, .binOp .add t_int (.tmp 58) (.const (.int .i64 1)) t_int, some (some 56, true), false⟩,
       ⟨some 60, .index t_string (.tmp 57) (.tmp 59), some (some 56, true), false⟩,
       ⟨some 61, .binOp .geq t_uint8 (.tmp 60) (.const (.int .u8 160)) t_uint8, some (some 56, true), false⟩,
       ⟨some 62, .pick (.tmp 56) (.tmp 61) (.const (.bool false)), some (some 53, false), false⟩,
       ⟨some 63, .pick (.tmp 53) (.const (.bool true)) (.tmp 62), none, false⟩])
      (.cond (.tmp 63)
       (.seq (.reg [⟨some 4, .assign (.const (.int .i64 0)), none, false⟩])
       .ret)
       .skip))
      (.seq (.reg [⟨some 4, .assign (.const (.int .i64 3)), none, false⟩])
      .ret))
      (.seq (.reg [⟨some 65, .move (.tmp 5), none, false⟩,
       ⟨some 66, .binOp .geq t_uint8 (.tmp 65) (.const (.int .u8 240)) t_uint8, none, false⟩,
       ⟨some 67, .move (.tmp 66), none, false⟩,
       ⟨some 68, .move (.tmp 5), some (some 67, true), false⟩,
       ⟨some 69, .binOp .lss t_uint8 (.tmp 68) (.const (.int .u8 245)) t_uint8, some (some 67, true), false⟩,
       ⟨some 70, .pick (.tmp 67) (.tmp 69) (.const (.bool false)), none, false⟩,
       ⟨some 71, .move (.tmp 70), none, false⟩,
       ⟨some 72, .move (.tmp 0), some (some 71, true), false⟩,
       ⟨some 73, .move (.tmp 1), some (some 71, true), false⟩,
       ⟨some 74, .binOp .add t_int (.tmp 73) (.const (.int .i64 1)) t_int, some (some 71, true), false⟩,
       ⟨some 75, .call ⟨.value (.func f_louperef02_cont), ⟨[(.tmp 72), (.tmp 74)]⟩, ⟨[t_string, t_int]⟩⟩, some (some 71, true), false⟩,
       ⟨some 76, .pick (.tmp 71) (.tmp 75) (.const (.bool false)), none, false⟩,
       ⟨some 77, .move (.tmp 76), none, false⟩,
       ⟨some 78, .move (.tmp 0), some (some 77, true), false⟩,
       ⟨some 79, .move (.tmp 1), some (some 77, true), false⟩,
       ⟨some 80, .binOp .add t_int (.tmp 79) (.const (.int .i64 2)) t_int, some (some 77, true), false⟩,
       ⟨some 81, .call ⟨.value (.func f_louperef02_cont), ⟨[(.tmp 78), (.tmp 80)]⟩, ⟨[t_string, t_int]⟩⟩, some (some 77, true), false⟩,
       ⟨some 82, .pick (.tmp 77) (.tmp 81) (.const (.bool false)), none, false⟩,
       ⟨some 83, .move (.tmp 82), none, false⟩,
       ⟨some 84, .move (.tmp 0), some (some 83, true), false⟩,
       ⟨some 85, .move (.tmp 1), some (some 83, true), false⟩,
       ⟨some 86, .binOp .add t_int (.tmp 85) (.const (.int .i64 3)) t_int, some (some 83, true), false⟩,
       ⟨some 87, .call ⟨.value (.func f_louperef02_cont), ⟨[(.tmp 84), (.tmp 86)]⟩, ⟨[t_string, t_int]⟩⟩, some (some 83, true), false⟩,
       ⟨some 88, .pick (.tmp 83) (.tmp 87) (.const (.bool false)), none, false⟩,
       ⟨some 64, .assign (.tmp 88), none, false⟩])
      (.cond (.tmp 64)
       (.seq (.seq (.reg [⟨some 89, .move (.tmp 5), none, false⟩,
        ⟨some 90, .binOp .eql t_uint8 (.tmp 89) (.const (.int .u8 240)) t_uint8, none, false⟩,
        ⟨some 91, .move (.tmp 90), none, false⟩,
        ⟨some 92, .move (.tmp 0), some (some 91, true), false⟩,
        ⟨some 93, .move (.tmp 1), some (some 91, true), false⟩,
        ⟨some 94, .binOp .add t_int (.tmp 93) (.const (.int .i64 1)) t_int, some (some 91, true), false⟩,
        ⟨some 95, .index t_string (.tmp 92) (.tmp 94), some (some 91, true), false⟩,
        ⟨some 96, .binOp .lss t_uint8 (.tmp 95) (.const (.int .u8 144)) t_uint8, some (some 91, true), false⟩,
        ⟨some 97, .pick (.tmp 91) (.tmp 96) (.const (.bool false)), none, false⟩,
        ⟨some 98, .move (.tmp 97), none, false⟩,
        ⟨some 99, .move (.tmp 5), some (some 98, false), false⟩,
        ⟨some 100, .binOp .eql t_uint8 (.tmp 99) (.const (.int .u8 244)) t_uint8, some (some 98, false), false⟩,
        ⟨some 101, .move (.tmp 100), some (some 98, false), false⟩,
        ⟨some 102, .move (.tmp 0), some (some 101, true), false⟩,
        ⟨some 103, .move (.tmp 1), some (some 101, true), false⟩,
        ⟨some 104, .binOp .add t_int (.tmp 103) (.const (.int .i64 1)) t_int, some (some 101, true), false⟩,
        ⟨some 105, .index t_string (.tmp 102) (.tmp 104), some (some 101, true), false⟩,
        ⟨some 106, .binOp .geq t_uint8 (.tmp 105) (.const (.int .u8 144)) t_uint8, some (some 101, true), false⟩,
        ⟨some 107, .pick (.tmp 101) (.tmp 106) (.const (.bool false)), some (some 98, false), false⟩,
        ⟨some 108, .pick (.tmp 98) (.const (.bool true)) (.tmp 107), none, false⟩])
       (.cond (.tmp 108)
        (.seq (.reg [⟨some 4, .assign (.const (.int .i64 0)), none, false⟩])
        .ret)
        .skip))
       (.seq (.reg [⟨some 4, .assign (.const (.int .i64 4)), none, false⟩])
       .ret))
       .skip)))))))))
  (.seq (.reg [⟨some 4, .assign (.const (.int .i64 0)), none, false⟩])
  .ret))))
theorem k_louperef02_Rune : FnOk Tryz.prog f_louperef02_Rune 109 [.tmp 4] q0e := ⟨_, _, Tryz.func98, by kernel_rfl, rfl, Tryz.ntmps98, rfl, by kernel_rfl⟩
def q41 : LC :=
  (.seq (.reg [⟨some 4, .assign (.const (.int .i64 0)), none, false⟩])
  (.seq (.reg [⟨some 5, .assign (.const (.int .i64 1)), none, false⟩])
  (.seq (.block 0 (.loop [true, true, false, false, false, true, false, false, false, false, false, false, false, false, false, false, false, false, false, false, false, false, false, false, false, false, false, false, false, false, false, false, false, false, false, false, false, false, false, false, false] none
   (.seq (.seq (.reg [⟨some 6, .move (.tmp 5), none, false⟩,
     ⟨some 7, .binOp .gtr t_int (.tmp 6) (.const (.int .i64 0)) t_int, none, false⟩])
    (.cond (.tmp 7)
     .skip
     (.exit 0)))
    (.block 1 (.seq (.seq (.reg [⟨some 8, .move (.tmp 1), none, false⟩,
      ⟨some 9, .move (.tmp 0), none, false⟩,
      ⟨some 10, .call ⟨.builtin .len, ⟨[(.tmp 9)]⟩, ⟨[t_api_Val]⟩⟩, none, false⟩,
      ⟨some 11, .binOp .geq t_int (.tmp 8) (.tmp 10) t_int, none, false⟩,
      ⟨some 12, .move (.tmp 11), none, false⟩,
      ⟨some 13, .move (.tmp 0), some (some 12, false), false⟩,
      ⟨some 14, .move (.tmp 1), some (some 12, false), false⟩,
      ⟨some 15, .indexAddr t_api_Val (.tmp 13) (.tmp 14), some (some 12, false), false⟩,
      ⟨some 16, .fieldAddr t_api_Node (.tmp 15) 1, some (some 12, false), false⟩,
      ⟨some 17, .load t_int (.tmp 16), some (some 12, false), false⟩,
      ⟨some 18, .binOp .lss t_int (.tmp 17) (.const (.int .i64 0)) t_int, some (some 12, false), false⟩,
      ⟨some 19, .pick (.tmp 12) (.const (.bool true)) (.tmp 18), none, false⟩,
      ⟨some 20, .move (.tmp 19), none, false⟩,
      ⟨some 21, .move (.tmp 0), some (some 20, false), false⟩,
      ⟨some 22, .move (.tmp 1), some (some 20, false), false⟩,
      ⟨some 23, .indexAddr t_api_Val (.tmp 21) (.tmp 22), some (some 20, false), false⟩,
      ⟨some 24, .fieldAddr t_api_Node (.tmp 23) 1, some (some 20, false), false⟩,
      ⟨some 25, .load t_int (.tmp 24), some (some 20, false), false⟩,
      ⟨some 26, .move (.tmp 0), some (some 20, false), false⟩,
      ⟨some 27, .call ⟨.builtin .len, ⟨[(.tmp 26)]⟩, ⟨[t_api_Val]⟩⟩, some (some 20, false), false⟩,
      ⟨some 28, .binOp .gtr t_int (.tmp 25) (.tmp 27) t_int, some (some 20, false), false⟩,
      ⟨some 29, .pick (.tmp 20) (.const (.bool true)) (.tmp 28), none, false⟩])
     (.cond (.tmp 29)
      (.seq (.reg [⟨some 4, .assign (.const (.int .i64 (-1))), none, false⟩])
      .ret)
      .skip))
     (.seq (.reg [⟨some 30, .move (.tmp 5), none, false⟩,
      ⟨some 31, .binOp .sub t_int (.tmp 30) (.const (.int .i64 1)) t_int, none, false⟩,
      ⟨some 32, .move (.tmp 0), none, false⟩,
      ⟨some 33, .move (.tmp 1), none, false⟩,
      ⟨some 34, .indexAddr t_api_Val (.tmp 32) (.tmp 33), none, false⟩,
      ⟨some 35, .fieldAddr t_api_Node (.tmp 34) 1, none, false⟩,
      ⟨some 36, .load t_int (.tmp 35), none, false⟩,
      ⟨some 37, .binOp .add t_int (.tmp 31) (.tmp 36) t_int, none, false⟩,
      ⟨some 5, .assign (.tmp 37), none, false⟩])
     (.reg [⟨some 38, .move (.tmp 1), none, false⟩,
      ⟨some 39, .binOp .add t_int (.tmp 38) (.const (.int .i64 1)) t_int, none, false⟩,
      ⟨some 1, .assign (.tmp 39), none, false⟩])))))))
  (.seq (.reg [⟨some 40, .move (.tmp 1), none, false⟩,
   ⟨some 4, .assign (.tmp 40), none, false⟩])
  .ret))))
theorem k_louperef02_Next : FnOk Tryz.prog f_louperef02_Next 41 [.tmp 4] q41 := ⟨_, _, Tryz.func105, by kernel_rfl, rfl, Tryz.ntmps105, rfl, by kernel_rfl⟩
def q0k : LC :=
  (.seq (.reg [⟨some 1, .box t_api_Node (.tmp 0), none, false⟩,
   ⟨some 2, .assign (.const (.bool false)), none, false⟩])
  (.seq (.reg [⟨some 3, .fieldAddr t_api_Node (.tmp 1) 2, none, false⟩,
   ⟨none, .store t_string (.tmp 3) (.const (.string ⟨⟨[]⟩⟩)), none, false⟩])
  (.seq (.seq (.reg [⟨some 4, .fieldAddr t_api_Node (.tmp 1) 0, none, false⟩,
   ⟨some 5, .load t_int (.tmp 4), none, false⟩])
  (.block 0 (.seq (.seq (.reg [⟨some 7, .binOp .eql t_int (.tmp 5) (.const (.int .i64 0)) t_int, none, false⟩,
    ⟨some 6, .assign (.tmp 7), none, false⟩])
   (.cond (.tmp 6)
    .skip
    (.seq (.reg [⟨some 8, .binOp .eql t_int (.tmp 5) (.const (.int .i64 1)) t_int, none, false⟩,
     ⟨some 6, .assign (.tmp 8), none, false⟩])
    (.cond (.tmp 6)
     .skip
     (.reg [⟨some 9, .binOp .eql t_int (.tmp 5) (.const (.int .i64 2)) t_int, none, false⟩,
      ⟨some 6, .assign (.tmp 9), none, false⟩])))))
   (.cond (.tmp 6)
    (.seq (.reg [⟨some 10, .load t_api_Node (.tmp 1), none, false⟩,
     ⟨some 11, .fieldAddr t_api_Node (.tmp 1) 0, none, false⟩,
     ⟨some 12, .load t_int (.tmp 11), none, false⟩,
     ⟨some 13, .build t_api_Node ⟨[(0, (.tmp 12))]⟩, none, false⟩,
     ⟨some 14, .binOp .eql t_api_Node (.tmp 10) (.tmp 13) t_api_Node, none, false⟩,
     ⟨some 2, .assign (.tmp 14), none, false⟩])
    .ret)
    (.seq (.reg [⟨some 16, .binOp .eql t_int (.tmp 5) (.const (.int .i64 3)) t_int, none, false⟩,
     ⟨some 15, .assign (.tmp 16), none, false⟩])
    (.cond (.tmp 15)
     (.seq (.reg [⟨some 17, .load t_api_Node (.tmp 1), none, false⟩,
      ⟨some 18, .call ⟨.value (.func f_louperef01_Right), ⟨[(.tmp 17)]⟩, ⟨[t_api_Node]⟩⟩, none, false⟩,
      ⟨some 2, .assign (.tmp 18), none, false⟩])
     .ret)
     (.seq (.reg [⟨some 20, .binOp .eql t_int (.tmp 5) (.const (.int .i64 4)) t_int, none, false⟩,
      ⟨some 19, .assign (.tmp 20), none, false⟩])
     (.cond (.tmp 19)
      (.seq (.reg [⟨some 21, .fieldAddr t_api_Node (.tmp 1) 3, none, false⟩,
       ⟨some 22, .load t_string (.tmp 21), none, false⟩,
       ⟨some 23, .call ⟨.value (.func f_louperef02_Utf), ⟨[(.tmp 22)]⟩, ⟨[t_string]⟩⟩, none, false⟩,
       ⟨some 24, .move (.tmp 23), none, false⟩,
       ⟨some 25, .load t_api_Node (.tmp 1), some (some 24, true), false⟩,
       ⟨some 26, .fieldAddr t_api_Node (.tmp 1) 0, some (some 24, true), false⟩,
       ⟨some 27, .load t_int (.tmp 26), some (some 24, true), false⟩,
       ⟨some 28, .fieldAddr t_api_Node (.tmp 1) 3, some (some 24, true), false⟩,
       ⟨some 29, .load t_string (.tmp 28), some (some 24, true), false⟩,
       ⟨some 30, .build t_api_Node ⟨[(0, (.tmp 27)), (3, (.tmp 29))]⟩, some (some 24, true), false⟩,
       ⟨some 31, .binOp .eql t_api_Node (.tmp 25) (.tmp 30) t_api_Node, some (some 24, true), false⟩,
       ⟨some 32, .pick (.tmp 24) (.tmp 31) (.const (.bool false)), none, false⟩,
       ⟨some 2, .assign (.tmp 32), none, false⟩])
      .ret)
      (.seq (.seq (.reg [⟨some 34, .binOp .eql t_int (.tmp 5) (.const (.int .i64 5)) t_int, none, false⟩,
       ⟨some 33, .assign (.tmp 34), none, false⟩])
      (.cond (.tmp 33)
       .skip
       (.reg [⟨some 35, .binOp .eql t_int (.tmp 5) (.const (.int .i64 6)) t_int, none, false⟩,
        ⟨some 33, .assign (.tmp 35), none, false⟩])))
      (.cond (.tmp 33)
       (.seq (.reg [⟨some 36, .fieldAddr t_api_Node (.tmp 1) 1, none, false⟩,
        ⟨some 37, .load t_int (.tmp 36), none, false⟩,
        ⟨some 38, .binOp .geq t_int (.tmp 37) (.const (.int .i64 0)) t_int, none, false⟩,
        ⟨some 39, .move (.tmp 38), none, false⟩,
        ⟨some 40, .load t_api_Node (.tmp 1), some (some 39, true), false⟩,
        ⟨some 41, .fieldAddr t_api_Node (.tmp 1) 0, some (some 39, true), false⟩,
        ⟨some 42, .load t_int (.tmp 41), some (some 39, true), false⟩,
        ⟨some 43, .fieldAddr t_api_Node (.tmp 1) 1, some (some 39, true), false⟩,
        ⟨some 44, .load t_int (.tmp 43), some (some 39, true), false⟩,
        ⟨some 45, .build t_api_Node ⟨[(0, (.tmp 42)), (1, (.tmp 44))]⟩, some (some 39, true), false⟩,
        ⟨some 46, .binOp .eql t_api_Node (.tmp 40) (.tmp 45) t_api_Node, some (some 39, true), false⟩,
        ⟨some 47, .pick (.tmp 39) (.tmp 46) (.const (.bool false)), none, false⟩,
        ⟨some 2, .assign (.tmp 47), none, false⟩])
       .ret)
       .skip))))))))))
  (.seq (.reg [⟨some 2, .assign (.const (.bool false)), none, false⟩])
  .ret))))
theorem k_louperef02_plain : FnOk Tryz.prog f_louperef02_plain 48 [.tmp 2] q0k := ⟨_, _, Tryz.func106, by kernel_rfl, rfl, Tryz.ntmps106, rfl, by kernel_rfl⟩
def q35 : LC :=
  (.seq (.reg [⟨some 4, .assign (.const (.bool false)), none, false⟩])
  (.seq (.reg [⟨some 8, .move (.tmp 1), none, false⟩,
   ⟨some 9, .binOp .add t_int (.tmp 8) (.const (.int .i64 1)) t_int, none, false⟩,
   ⟨some 5, .assign (.tmp 9), none, false⟩])
  (.seq (.seq (.reg [⟨some 6, .assign (.const (.int .i64 0)), none, false⟩])
  (.block 0 (.loop [true, true, false, false, false, true, true, false, false, false, false, false, false, false, false, false, false, false, false, false, false, false, false, false, false, false, false, false, false, false, false, false, false, false, false, false, false, false, false, false, false, false, false, false, false, false, false, false, false, false, false, false, false, false, false, false, false, false, false, false, false, false, false, false, false, false, false, false, false, false, false, false, false, false, false] none
   (.seq (.seq (.reg [⟨some 10, .move (.tmp 6), none, false⟩,
     ⟨some 11, .move (.tmp 0), none, false⟩,
     ⟨some 12, .move (.tmp 1), none, false⟩,
     ⟨some 13, .indexAddr t_api_Val (.tmp 11) (.tmp 12), none, false⟩,
     ⟨some 14, .fieldAddr t_api_Node (.tmp 13) 1, none, false⟩,
     ⟨some 15, .load t_int (.tmp 14), none, false⟩,
     ⟨some 16, .binOp .lss t_int (.tmp 10) (.tmp 15) t_int, none, false⟩])
    (.cond (.tmp 16)
     .skip
     (.exit 0)))
    (.seq (.block 1 (.seq (.seq (.reg [⟨some 19, .move (.tmp 0), none, false⟩,
      ⟨some 20, .move (.tmp 1), none, false⟩,
      ⟨some 21, .indexAddr t_api_Val (.tmp 19) (.tmp 20), none, false⟩,
      ⟨some 22, .fieldAddr t_api_Node (.tmp 21) 0, none, false⟩,
      ⟨some 23, .load t_int (.tmp 22), none, false⟩,
      ⟨some 24, .binOp .eql t_int (.tmp 23) (.const (.int .i64 5)) t_int, none, false⟩,
      ⟨some 25, .move (.tmp 24), none, false⟩,
      ⟨some 26, .move (.tmp 0), some (some 25, true), false⟩,
      ⟨some 27, .move (.tmp 5), some (some 25, true), false⟩,
      ⟨some 28, .indexAddr t_api_Val (.tmp 26) (.tmp 27), some (some 25, true), false⟩,
      ⟨some 29, .fieldAddr t_api_Node (.tmp 28) 2, some (some 25, true), false⟩,
      ⟨some 30, .load t_string (.tmp 29), some (some 25, true), false⟩,
      ⟨some 31, .binOp .neq t_string (.tmp 30) (.const (.string ⟨⟨[]⟩⟩)) t_string, some (some 25, true), false⟩,
      ⟨some 32, .pick (.tmp 25) (.tmp 31) (.const (.bool false)), none, false⟩,
      ⟨some 33, .move (.tmp 32), none, false⟩,
      ⟨some 34, .move (.tmp 0), some (some 33, false), false⟩,
      ⟨some 35, .move (.tmp 5), some (some 33, false), false⟩,
      ⟨some 36, .indexAddr t_api_Val (.tmp 34) (.tmp 35), some (some 33, false), false⟩,
      ⟨some 37, .fieldAddr t_api_Node (.tmp 36) 2, some (some 33, false), false⟩,
      ⟨some 38, .load t_string (.tmp 37), some (some 33, false), false⟩,
      ⟨some 39, .call ⟨.value (.func f_louperef02_Utf), ⟨[(.tmp 38)]⟩, ⟨[t_string]⟩⟩, some (some 33, false), false⟩,
      ⟨some 40, .unOp .not t_bool (.tmp 39), some (some 33, false), false⟩,
      ⟨some 41, .pick (.tmp 33) (.const (.bool true)) (.tmp 40), none, false⟩])
     (.cond (.tmp 41)
      (.seq (.reg [⟨some 4, .assign (.const (.bool false)), none, false⟩])
      .ret)
      .skip))
     (.seq (.reg [⟨some 42, .move (.tmp 0), none, false⟩,
      ⟨some 43, .move (.tmp 5), none, false⟩,
      ⟨some 44, .call ⟨.value (.func f_louperef02_Next), ⟨[(.tmp 42), (.tmp 43)]⟩, ⟨[t_api_Val, t_int]⟩⟩, none, false⟩,
      ⟨some 7, .assign (.tmp 44), none, false⟩])
     (.seq (.seq (.draw [⟨some 45, .move (.tmp 0), none, false⟩,
      ⟨some 46, .move (.tmp 1), none, false⟩,
      ⟨some 47, .indexAddr t_api_Val (.tmp 45) (.tmp 46), none, false⟩,
      ⟨some 48, .fieldAddr t_api_Node (.tmp 47) 0, none, false⟩,
      ⟨some 49, .load t_int (.tmp 48), none, false⟩,
      ⟨some 50, .binOp .eql t_int (.tmp 49) (.const (.int .i64 6)) t_int, none, false⟩,
      ⟨some 51, .move (.tmp 50), none, false⟩,
      ⟨some 52, .move (.tmp 6), some (some 51, true), false⟩,
      ⟨some 53, .binOp .add t_int (.tmp 52) (.const (.int .i64 1)) t_int, some (some 51, true), false⟩,
      ⟨some 54, .move (.tmp 0), some (some 51, true), false⟩,
      ⟨some 55, .move (.tmp 1), some (some 51, true), false⟩,
      ⟨some 56, .indexAddr t_api_Val (.tmp 54) (.tmp 55), some (some 51, true), false⟩,
      ⟨some 57, .fieldAddr t_api_Node (.tmp 56) 1, some (some 51, true), false⟩,
      ⟨some 58, .load t_int (.tmp 57), some (some 51, true), false⟩,
      ⟨some 59, .binOp .lss t_int (.tmp 53) (.tmp 58) t_int, some (some 51, true), false⟩,
      ⟨some 60, .pick (.tmp 51) (.tmp 59) (.const (.bool false)), none, false⟩,
      ⟨some 61, .move (.tmp 60), none, false⟩,
      ⟨some 62, .move (.tmp 0), some (some 61, true), false⟩,
      ⟨some 63, .move (.tmp 5), some (some 61, true), false⟩,
      ⟨some 64, .indexAddr t_api_Val (.tmp 62) (.tmp 63), some (some 61, true), false⟩,
      ⟨some 65, .fieldAddr t_api_Node (.tmp 64) 2, some (some 61, true), false⟩,
      ⟨some 66, .load t_string (.tmp 65), some (some 61, true), false⟩,
      ⟨some 67, .move (.tmp 0), some (some 61, true), false⟩,
      ⟨some 68, .move (.tmp 7), some (some 61, true), false⟩,
      ⟨some 69, .indexAddr t_api_Val (.tmp 67) (.tmp 68), some (some 61, true), false⟩,
      ⟨some 70, .fieldAddr t_api_Node (.tmp 69) 2, some (some 61, true), false⟩,
      ⟨some 71, .load t_string (.tmp 70), some (some 61, true), false⟩,
      ⟨some 72, .binOp .geq t_string (.tmp 66) (.tmp 71) t_string, some (some 61, true), false⟩,
      ⟨some 73, .pick (.tmp 61) (.tmp 72) (.const (.bool false)), none, false⟩]
     [0, 1, 0, 0, 0, 0, 0, 0, 0, 384, 896, 384, 384, 384, 0, 0, 0, 0, 131072, 0, 0, 0, 4063232, 8257536, 4063232, 4063232, 4063232, 0, 0])
     (.cond (.tmp 73)
      (.seq (.reg [⟨some 4, .assign (.const (.bool false)), none, false⟩])
      .ret)
      .skip))
     (.reg [⟨some 74, .move (.tmp 7), none, false⟩,
      ⟨some 5, .assign (.tmp 74), none, false⟩])))))
    (.reg [⟨some 17, .move (.tmp 6), none, false⟩,
     ⟨some 18, .binOp .add t_int (.tmp 17) (.const (.int .i64 1)) t_int, none, false⟩,
     ⟨some 6, .assign (.tmp 18), none, false⟩]))))))
  (.seq (.reg [⟨some 4, .assign (.const (.bool true)), none, false⟩])
  .ret))))
theorem k_louperef02_rising : FnOk Tryz.prog f_louperef02_rising 75 [.tmp 4] q35 := ⟨_, _, Tryz.func107, by kernel_rfl, rfl, Tryz.ntmps107, rfl, by kernel_rfl⟩
def q36 : LC :=
  (.seq (.reg [⟨some 2, .assign (.const (.bool false)), none, false⟩])
  (.seq (.reg [⟨some 3, .move (.tmp 0), none, false⟩,
   ⟨some 4, .move (.tmp 0), none, false⟩,
   ⟨some 5, .binOp .neq t_string (.tmp 3) (.tmp 4) t_string, none, false⟩,
   ⟨some 2, .assign (.tmp 5), none, false⟩])
  .ret))
theorem k_cmp_isNaN_string_ : FnOk Tryz.prog f_cmp_isNaN_string_ 6 [.tmp 2] q36 := ⟨_, _, Tryz.func220, by kernel_rfl, rfl, Tryz.ntmps220, rfl, by kernel_rfl⟩
def c_val_each : LC :=
  (.seq (.reg [⟨some 1, .box t_api_Val (.tmp 0), none, false⟩,
   ⟨some 2, .assign (.const (.nilFunc)), none, false⟩])
  (.seq (.reg [⟨some 3, .makeFunc (.func f_val_each_1) ⟨[]⟩ ⟨[(.tmp 1)]⟩, none, false⟩,
   ⟨some 2, .assign (.tmp 3), none, false⟩])
  .ret))
theorem k_val_each : FnOk Tryz.prog f_val_each 4 [.tmp 2] c_val_each := ⟨_, _, Tryz.func95, by kernel_rfl, rfl, Tryz.ntmps95, rfl, by kernel_rfl⟩
def q2a : LC :=
  (.seq (.reg [⟨some 4, .assign (.const (.bool false)), none, false⟩])
  (.seq (.reg [⟨some 5, .move (.tmp 1), none, false⟩,
   ⟨some 6, .move (.tmp 0), none, false⟩,
   ⟨some 7, .call ⟨.builtin .len, ⟨[(.tmp 6)]⟩, ⟨[t_string]⟩⟩, none, false⟩,
   ⟨some 8, .binOp .lss t_int (.tmp 5) (.tmp 7) t_int, none, false⟩,
   ⟨some 9, .move (.tmp 8), none, false⟩,
   ⟨some 10, .move (.tmp 0), some (some 9, true), false⟩,
   ⟨some 11, .move (.tmp 1), some (some 9, true), false⟩,
   ⟨some 12, .index t_string (.tmp 10) (.tmp 11), some (some 9, true), false⟩,
   ⟨some 13, .binOp .geq t_uint8 (.tmp 12) (.const (.int .u8 128)) t_uint8, some (some 9, true), false⟩,
   ⟨some 14, .pick (.tmp 9) (.tmp 13) (.const (.bool false)), none, false⟩,
   ⟨some 15, .move (.tmp 14), none, false⟩,
   ⟨some 16, .move (.tmp 0), some (some 15, true), false⟩,
   ⟨some 17, .move (.tmp 1), some (some 15, true), false⟩,
   ⟨some 18, .index t_string (.tmp 16) (.tmp 17), some (some 15, true), false⟩,
   ⟨some 19, .binOp .lss t_uint8 (.tmp 18) (.const (.int .u8 192)) t_uint8, some (some 15, true), false⟩,
   ⟨some 20, .pick (.tmp 15) (.tmp 19) (.const (.bool false)), none, false⟩,
   ⟨some 4, .assign (.tmp 20), none, false⟩])
  .ret))
theorem k_louperef02_cont : FnOk Tryz.prog f_louperef02_cont 21 [.tmp 4] q2a := ⟨_, _, Tryz.func177, by kernel_rfl, rfl, Tryz.ntmps177, rfl, by kernel_rfl⟩
def q3f : LC :=
  (.seq (.reg [⟨some 1, .box t_api_Node (.tmp 0), none, false⟩,
   ⟨some 2, .assign (.const (.bool false)), none, false⟩])
  (.seq (.seq (.weak (.reg [⟨some 3, .fieldAddr t_api_Node (.tmp 1) 0, none, false⟩,
   ⟨some 4, .load t_int (.tmp 3), none, false⟩,
   ⟨some 5, .binOp .neq t_int (.tmp 4) (.const (.int .i64 3)) t_int, none, false⟩,
   ⟨some 6, .move (.tmp 5), none, false⟩,
   ⟨some 7, .fieldAddr t_api_Node (.tmp 1) 1, some (some 6, false), false⟩,
   ⟨some 8, .load t_int (.tmp 7), some (some 6, false), false⟩,
   ⟨some 9, .binOp .neq t_int (.tmp 8) (.const (.int .i64 0)) t_int, some (some 6, false), false⟩,
   ⟨some 10, .pick (.tmp 6) (.const (.bool true)) (.tmp 9), none, false⟩,
   ⟨some 11, .move (.tmp 10), none, false⟩,
   ⟨some 12, .fieldAddr t_api_Node (.tmp 1) 2, some (some 11, false), false⟩,
   ⟨some 13, .load t_string (.tmp 12), some (some 11, false), false⟩,
   ⟨some 14, .binOp .neq t_string (.tmp 13) (.const (.string ⟨⟨[]⟩⟩)) t_string, some (some 11, false), false⟩,
   ⟨some 15, .pick (.tmp 11) (.const (.bool true)) (.tmp 14), none, false⟩,
   ⟨some 16, .move (.tmp 15), none, false⟩,
   ⟨some 17, .fieldAddr t_api_Node (.tmp 1) 3, some (some 16, false), false⟩,
   ⟨some 18, .load t_string (.tmp 17), some (some 16, false), false⟩,
   ⟨some 19, .call ⟨.value (.func f_louperef01_figures), ⟨[(.tmp 18)]⟩, ⟨[t_string]⟩⟩, some (some 16, false), false⟩,
   ⟨some 20, .unOp .not t_bool (.tmp 19), some (some 16, false), false⟩,
   ⟨some 21, .pick (.tmp 16) (.const (.bool true)) (.tmp 20), none, false⟩,
   ⟨some 22, .move (.tmp 21), none, false⟩,
   ⟨some 23, .fieldAddr t_api_Node (.tmp 1) 3, some (some 22, false), false⟩,
   ⟨some 24, .load t_string (.tmp 23), some (some 22, false), false⟩,
   ⟨some 25, .call ⟨.builtin .len, ⟨[(.tmp 24)]⟩, ⟨[t_string]⟩⟩, some (some 22, false), false⟩,
   ⟨some 26, .binOp .gtr t_int (.tmp 25) (.const (.int .i64 100)) t_int, some (some 22, false), false⟩,
   ⟨some 27, .pick (.tmp 22) (.const (.bool true)) (.tmp 26), none, false⟩,
   ⟨some 28, .move (.tmp 27), none, false⟩,
   ⟨some 29, .fieldAddr t_api_Node (.tmp 1) 5, some (some 28, false), false⟩,
   ⟨some 30, .load t_int (.tmp 29), some (some 28, false), false⟩,
   ⟨some 31, .binOp .lss t_int (.tmp 30) (.const (.int .i64 (-1000))) t_int, some (some 28, false), false⟩,
   ⟨some 32, .pick (.tmp 28) (.const (.bool true)) (.tmp 31), none, false⟩,
   ⟨some 33, .move (.tmp 32), none, false⟩,
   ⟨some 34, .fieldAddr t_api_Node (.tmp 1) 5, some (some 33, false), false⟩,
   ⟨some 35, .load t_int (.tmp 34), some (some 33, false), false⟩,
   ⟨some 36, .binOp .gtr t_int (.tmp 35) (.const (.int .i64 1000)) t_int, some (some 33, false), false⟩,
   ⟨some 37, .pick (.tmp 33) (.const (.bool true)) (.tmp 36), none, false⟩,
   ⟨some 38, .move (.tmp 37), none, false⟩,
   ⟨some 39, .fieldAddr t_api_Node (.tmp 1) 3, some (some 38, false), false⟩,
   ⟨some 40, .load t_string (.tmp 39), some (some 38, false), false⟩,
   ⟨some 41, .call ⟨.builtin .len, ⟨[(.tmp 40)]⟩, ⟨[t_string]⟩⟩, some (some 38, false), false⟩,
   ⟨some 42, .fieldAddr t_api_Node (.tmp 1) 5, some (some 38, false), false⟩,
   ⟨some 43, .load t_int (.tmp 42), some (some 38, false), false⟩,
   ⟨some 44, .binOp .add t_int (.tmp 41) (.tmp 43) t_int, some (some 38, false), false⟩,
   ⟨some 45, .binOp .gtr t_int (.tmp 44) (.const (.int .i64 1000)) t_int, some (some 38, false), false⟩,
   ⟨some 46, .pick (.tmp 38) (.const (.bool true)) (.tmp 45), none, false⟩]))
  (.cond (.tmp 46)
   (.seq (.reg [⟨some 2, .assign (.const (.bool false)), none, false⟩])
   .ret)
   .skip))
  (.seq (.seq (.reg [⟨some 47, .fieldAddr t_api_Node (.tmp 1) 3, none, false⟩,
   ⟨some 48, .load t_string (.tmp 47), none, false⟩,
   ⟨some 49, .binOp .eql t_string (.tmp 48) (.const (.string ⟨⟨[]⟩⟩)) t_string, none, false⟩])
  (.cond (.tmp 49)
   (.seq (.reg [⟨some 50, .fieldAddr t_api_Node (.tmp 1) 4, none, false⟩,
    ⟨some 51, .load t_bool (.tmp 50), none, false⟩,
    ⟨some 52, .unOp .not t_bool (.tmp 51), none, false⟩,
    ⟨some 53, .move (.tmp 52), none, false⟩,
    ⟨some 54, .fieldAddr t_api_Node (.tmp 1) 5, some (some 53, true), false⟩,
    ⟨some 55, .load t_int (.tmp 54), some (some 53, true), false⟩,
    ⟨some 56, .binOp .eql t_int (.tmp 55) (.const (.int .i64 0)) t_int, some (some 53, true), false⟩,
    ⟨some 57, .pick (.tmp 53) (.tmp 56) (.const (.bool false)), none, false⟩,
    ⟨some 2, .assign (.tmp 57), none, false⟩])
   .ret)
   .skip))
  (.seq (.reg [⟨some 58, .fieldAddr t_api_Node (.tmp 1) 3, none, false⟩,
   ⟨some 59, .load t_string (.tmp 58), none, false⟩,
   ⟨some 60, .index t_string (.tmp 59) (.const (.int .i64 0)), none, false⟩,
   ⟨some 61, .binOp .neq t_uint8 (.tmp 60) (.const (.int .u8 48)) t_uint8, none, false⟩,
   ⟨some 62, .move (.tmp 61), none, false⟩,
   ⟨some 63, .fieldAddr t_api_Node (.tmp 1) 3, some (some 62, true), false⟩,
   ⟨some 64, .load t_string (.tmp 63), some (some 62, true), false⟩,
   ⟨some 65, .fieldAddr t_api_Node (.tmp 1) 3, some (some 62, true), false⟩,
   ⟨some 66, .load t_string (.tmp 65), some (some 62, true), false⟩,
   ⟨some 67, .call ⟨.builtin .len, ⟨[(.tmp 66)]⟩, ⟨[t_string]⟩⟩, some (some 62, true), false⟩,
   ⟨some 68, .binOp .sub t_int (.tmp 67) (.const (.int .i64 1)) t_int, some (some 62, true), false⟩,
   ⟨some 69, .index t_string (.tmp 64) (.tmp 68), some (some 62, true), false⟩,
   ⟨some 70, .binOp .neq t_uint8 (.tmp 69) (.const (.int .u8 48)) t_uint8, some (some 62, true), false⟩,
   ⟨some 71, .pick (.tmp 62) (.tmp 70) (.const (.bool false)), none, false⟩,
   ⟨some 2, .assign (.tmp 71), none, false⟩])
  .ret))))
theorem k_louperef01_Right : FnOk Tryz.prog f_louperef01_Right 72 [.tmp 2] q3f := ⟨_, _, Tryz.func184, by kernel_rfl, rfl, Tryz.ntmps184, rfl, by kernel_rfl⟩
def q8h : LC :=
  (.seq (.reg [⟨some 3, .assign (.const (.int .i64 1)), none, false⟩])
  (.seq (.reg [⟨some 6, .load t_api_Val (.tmp 1), none, false⟩,
   ⟨some 7, .indexAddr t_api_Val (.tmp 6) (.const (.int .i64 0)), none, false⟩,
   ⟨some 8, .fieldAddr t_api_Node (.tmp 7) 1, none, false⟩,
   ⟨some 9, .load t_int (.tmp 8), none, false⟩,
   ⟨some 10, .move (.const (.int .i64 0)), none, false⟩])
  (.block 0 (.loop [true, true, false, true, false, false, false, false, false, true, true, false, false, false, false, false, false, false, false, false, false, false, false, false, false, false, false, false, false, false, false, false, false, false] none
   (.seq (.reg [⟨some 11, .binOp .lss t_int (.tmp 10) (.tmp 9) t_int, none, false⟩])
    (.seq (.cond (.tmp 11)
     .skip
     (.exit 0))
    (.seq (.block 1 (.seq (.reg [⟨some 12, .load t_api_Val (.tmp 1), none, false⟩,
      ⟨some 13, .move (.tmp 3), none, false⟩,
      ⟨some 14, .call ⟨.value (.func f_val_behind), ⟨[(.tmp 12), (.tmp 13)]⟩, ⟨[t_api_Val, t_int]⟩⟩, none, false⟩,
      ⟨some 4, .assign (.tmp 14), none, false⟩])
     (.seq (.reg [⟨some 15, .load t_api_Val (.tmp 1), none, false⟩,
      ⟨some 16, .move (.tmp 3), none, false⟩,
      ⟨some 17, .move (.tmp 4), none, false⟩,
      ⟨some 18, .slice t_api_Val (.tmp 15) (some (.tmp 16)) (some (.tmp 17)) none, none, false⟩,
      ⟨some 19, .call ⟨.value (.func f_slices_Clone_api_Val_api_Node_), ⟨[(.tmp 18)]⟩, ⟨[t_api_Val]⟩⟩, none, false⟩,
      ⟨some 5, .assign (.tmp 19), none, false⟩])
     (.seq (.reg [⟨some 20, .move (.tmp 5), none, false⟩,
      ⟨some 21, .indexAddr t_api_Val (.tmp 20) (.const (.int .i64 0)), none, false⟩,
      ⟨some 22, .fieldAddr t_api_Node (.tmp 21) 2, none, false⟩,
      ⟨none, .store t_string (.tmp 22) (.const (.string ⟨⟨[]⟩⟩)), none, false⟩])
     (.seq (.seq (.weak (.reg [⟨some 23, .move (.tmp 0), none, false⟩,
      ⟨some 24, .load t_api_Val (.tmp 1), none, false⟩,
      ⟨some 25, .move (.tmp 3), none, false⟩,
      ⟨some 26, .indexAddr t_api_Val (.tmp 24) (.tmp 25), none, false⟩,
      ⟨some 27, .fieldAddr t_api_Node (.tmp 26) 2, none, false⟩,
      ⟨some 28, .load t_string (.tmp 27), none, false⟩,
      ⟨some 29, .move (.tmp 5), none, false⟩,
      ⟨some 30, .call ⟨.value (.tmp 23), ⟨[(.tmp 28), (.tmp 29)]⟩, ⟨[t_string, t_api_Val]⟩⟩, none, false⟩,
      ⟨some 31, .unOp .not t_bool (.tmp 30), none, false⟩]))
     (.cond (.tmp 31)
      .ret
      .skip))
     (.reg [⟨some 32, .move (.tmp 4), none, false⟩,
      ⟨some 3, .assign (.tmp 32), none, false⟩]))))))
    (.reg [⟨some 33, .binOp .add t_int (.tmp 10) (.const (.int .i64 1)) t_int, none, false⟩,
     ⟨some 10, .move (.tmp 33), none, false⟩]))))))))
theorem k_val_each_1 : FnOk Tryz.prog f_val_each_1 34 [] q8h := ⟨_, _, Tryz.func173, by kernel_rfl, rfl, Tryz.ntmps173, rfl, by kernel_rfl⟩
def q8i : LC :=
  (.seq (.reg [⟨some 4, .assign (.const (.int .i64 0)), none, false⟩])
  (.seq (.seq (.reg [⟨some 5, .assign (.const (.int .i64 1)), none, false⟩])
  (.block 0 (.loop [true, true, false, false, false, true, false, false, false, false, false, false, false, false, false, false, false, false, false] none
   (.seq (.seq (.reg [⟨some 6, .move (.tmp 5), none, false⟩,
     ⟨some 7, .binOp .gtr t_int (.tmp 6) (.const (.int .i64 0)) t_int, none, false⟩])
    (.cond (.tmp 7)
     .skip
     (.exit 0)))
    (.seq (.block 1 (.reg [⟨some 10, .move (.tmp 5), none, false⟩,
      ⟨some 11, .move (.tmp 0), none, false⟩,
      ⟨some 12, .move (.tmp 1), none, false⟩,
      ⟨some 13, .indexAddr t_api_Val (.tmp 11) (.tmp 12), none, false⟩,
      ⟨some 14, .fieldAddr t_api_Node (.tmp 13) 1, none, false⟩,
      ⟨some 15, .load t_int (.tmp 14), none, false⟩,
      ⟨some 16, .binOp .sub t_int (.tmp 15) (.const (.int .i64 1)) t_int, none, false⟩,
      ⟨some 17, .binOp .add t_int (.tmp 10) (.tmp 16) t_int, none, false⟩,
      ⟨some 5, .assign (.tmp 17), none, false⟩]))
    (.reg [⟨some 8, .move (.tmp 1), none, false⟩,
     ⟨some 9, .binOp .add t_int (.tmp 8) (.const (.int .i64 1)) t_int, none, false⟩,
     ⟨some 1, .assign (.tmp 9), none, false⟩]))))))
  (.seq (.reg [⟨some 18, .move (.tmp 1), none, false⟩,
   ⟨some 4, .assign (.tmp 18), none, false⟩])
  .ret)))
theorem k_val_behind : FnOk Tryz.prog f_val_behind 19 [.tmp 4] q8i := ⟨_, _, Tryz.func174, by kernel_rfl, rfl, Tryz.ntmps174, rfl, by kernel_rfl⟩
def q0v : LC :=
  (.seq (.reg [⟨some 2, .assign (.const (.slice none 0 0)), none, false⟩])
  (.seq (.seq (.reg [⟨some 3, .move (.tmp 0), none, false⟩,
   ⟨some 4, .binOp .eql t_api_Val (.tmp 3) (.const (.slice none 0 0)) t_api_Val, none, false⟩])
  (.cond (.tmp 4)
   (.seq (.reg [⟨some 2, .assign (.const (.slice none 0 0)), none, false⟩])
   .ret)
   .skip))
  (.seq (.reg [⟨some 5, .buildSlice t_api_Val 0 ⟨[]⟩, none, true⟩,
   ⟨some 6, .move (.tmp 0), none, false⟩,
   ⟨some 7, .call ⟨.builtin .append, ⟨[(.tmp 5), (.tmp 6)]⟩, ⟨[t_api_Val, t_api_Val]⟩⟩, none, false⟩,
   ⟨some 2, .assign (.tmp 7), none, false⟩])
  .ret)))
theorem k_slices_Clone_api_Val_api_Node_ : FnOk Tryz.prog f_slices_Clone_api_Val_api_Node_ 8 [.tmp 2] q0v := ⟨_, _, Tryz.func175, by kernel_rfl, rfl, Tryz.ntmps175, rfl, by kernel_rfl⟩
def q2r : LC :=
  (.seq (.reg [⟨some 2, .assign (.const (.bool false)), none, false⟩])
  (.seq (.seq (.reg [⟨some 3, .assign (.const (.int .i64 0)), none, false⟩])
  (.block 0 (.loop [true, false, false, true, false, false, false, false, false, false, false, false, false, false, false, false, false, false, false, false] none
   (.seq (.seq (.reg [⟨some 4, .move (.tmp 3), none, false⟩,
     ⟨some 5, .move (.tmp 0), none, false⟩,
     ⟨some 6, .call ⟨.builtin .len, ⟨[(.tmp 5)]⟩, ⟨[t_string]⟩⟩, none, false⟩,
     ⟨some 7, .binOp .lss t_int (.tmp 4) (.tmp 6) t_int, none, false⟩])
    (.cond (.tmp 7)
     .skip
     (.exit 0)))
    (.seq (.block 1 (.seq (.reg [⟨some 10, .move (.tmp 0), none, false⟩,
      ⟨some 11, .move (.tmp 3), none, false⟩,
      ⟨some 12, .index t_string (.tmp 10) (.tmp 11), none, false⟩,
      ⟨some 13, .binOp .lss t_uint8 (.tmp 12) (.const (.int .u8 48)) t_uint8, none, false⟩,
      ⟨some 14, .move (.tmp 13), none, false⟩,
      ⟨some 15, .move (.tmp 0), some (some 14, false), false⟩,
      ⟨some 16, .move (.tmp 3), some (some 14, false), false⟩,
      ⟨some 17, .index t_string (.tmp 15) (.tmp 16), some (some 14, false), false⟩,
      ⟨some 18, .binOp .gtr t_uint8 (.tmp 17) (.const (.int .u8 57)) t_uint8, some (some 14, false), false⟩,
      ⟨some 19, .pick (.tmp 14) (.const (.bool true)) (.tmp 18), none, false⟩])
     (.cond (.tmp 19)
      (.seq (.reg [⟨some 2, .assign (.const (.bool false)), none, false⟩])
      .ret)
      .skip)))
    (.reg [⟨some 8, .move (.tmp 3), none, false⟩,
     ⟨some 9, .binOp .add t_int (.tmp 8) (.const (.int .i64 1)) t_int, none, false⟩,
     ⟨some 3, .assign (.tmp 9), none, false⟩]))))))
  (.seq (.reg [⟨some 2, .assign (.const (.bool true)), none, false⟩])
  .ret)))
theorem k_louperef01_figures : FnOk Tryz.prog f_louperef01_figures 20 [.tmp 2] q2r := ⟨_, _, Tryz.func230, by kernel_rfl, rfl, Tryz.ntmps230, rfl, by kernel_rfl⟩
end Lp

/-! LpZ -/

namespace Lp
open Go
structure HK {α : Type} (K : α → Prop) : Type where
def atO {α : Type} {K : α → Prop} (o : Option α) (_h : HK K) : Prop := ∃ x, o = some x ∧ K x
theorem atR {α : Type} (K : α → Prop) : (∀ x, atO (some x) (HK.mk : HK K) = K x) ∧ (∀ (a : α) l, (a :: l)[0]? = some a) ∧ (∀ (a : α) l (n : Nat), (a :: l)[n + 1]? = l[n]?) :=
  ⟨fun x => by simp [atO], fun _ _ => rfl, fun _ _ _ => by simp⟩
def slK (k : TK) (K : TypeId → Prop) : Prop := match k with
  | .slice e => K e
  | _ => False
def arK (k : TK) (K : Nat → TypeId → Prop) : Prop := match k with
  | .array n e => K n e
  | _ => False
def strK (k : TK) (X : Prop) : Prop := match k with
  | .str => X
  | _ => False
@[congr] theorem slK_congr {k k' : TK} {K : TypeId → Prop} (h : k = k') : slK k K = slK k' K := by rw [h]
@[congr] theorem arK_congr {k k' : TK} {K : Nat → TypeId → Prop} (h : k = k') : arK k K = arK k' K := by rw [h]
@[congr] theorem strK_congr {k k' : TK} {X : Prop} (h : k = k') : strK k X = strK k' X := by rw [h]
theorem skR : (∀ e K, slK (.slice e) K = K e) ∧ (∀ n e K, arK (.array n e) K = K n e) ∧ (∀ X, strK .str X = X) := ⟨fun _ _ => rfl, fun _ _ _ => rfl, fun _ => rfl⟩
theorem genR (D : TypeId → TInfo) (objs : List Obj) (K : KT) :
    (∀ t sz xs q k n, q0j D t (.sl sz xs q) (.int k n) objs K = slK (D t).kind fun e => (D e).kind ≠ .none ∧ 0 ≤ n ∧ (D e).size = sz ∧ atO xs[n.toNat]? (HK.mk : HK fun y => K (.addr y) objs 0)) ∧
    (∀ t k ver k' n, q0j D t (.osl k ver) (.int k' n) objs K = slK (D t).kind fun e => (D e).kind ≠ .none ∧ 0 ≤ n ∧ ∃ o, objs[k]? = some o ∧ o.live = true ∧ o.ver = ver ∧ n < o.xs.length ∧ (D e).size = o.sz ∧ K (.optr k ver n.toNat 0) objs (4 + 2 * k)) ∧
    (∀ t cs k n, q0j D t (.addr (.agg cs)) (.int k n) objs K = arK (D t).kind fun m e => (D e).kind ≠ .none ∧ 0 ≤ n ∧ n < m ∧ (n.toNat + 1) * (D e).size ≤ cs.length ∧ ((D e).agg = false → (D e).size = 1) ∧ cs.all (fun c => !c.isAgg) = true ∧
      K (.addr (sub cs (n.toNat * (D e).size) (D e).size (D e).agg)) objs 0) ∧
    (∀ t k ver i f k' n, q0j D t (.optr k ver i f) (.int k' n) objs K = arK (D t).kind fun m e => (D e).kind ≠ .none ∧ 0 ≤ n ∧ n < m ∧ ∃ o, objs[k]? = some o ∧ o.live = true ∧ o.ver = ver ∧ K (.optr k ver i (f + n.toNat * (D e).size)) objs (4 + 2 * k)) ∧
    (∀ t s k n, q2z D t (.str s) (.int k n) objs K = strK (D t).kind (0 ≤ n ∧ atO s[n.toNat]? (HK.mk : HK fun b => K (.int .u8 b.toNat) objs 0))) ∧
    (∀ t cs k n, q2z D t (.agg cs) (.int k n) objs K = arK (D t).kind fun m e => (D e).kind ≠ .none ∧ 0 ≤ n ∧ n < m ∧ (n.toNat + 1) * (D e).size ≤ cs.length ∧ (D e).size ≠ 0 ∧ K (sub cs (n.toNat * (D e).size) (D e).size (D e).agg) objs 0) ∧
    (∀ t cs f, q0i D t (.addr (.agg cs)) f objs K = q01 D t f fun off ti => off + ti.size ≤ cs.length ∧ (ti.agg = false → ti.size = 1) ∧ cs.all (fun c => !c.isAgg) = true ∧ K (.addr (sub cs off ti.size ti.agg)) objs 0) ∧
    (∀ t k ver i f' f, q0i D t (.optr k ver i f') f objs K = ∃ o, objs[k]? = some o ∧ o.live = true ∧ o.ver = ver ∧ q01 D t f fun off _ => K (.optr k ver i (f' + off)) objs (4 + 2 * k)) ∧
    (∀ t cs f, q4n D t (.agg cs) f objs K = q01 D t f fun off ti => off + ti.size ≤ cs.length ∧ K (sub cs off ti.size ti.agg) objs 0) ∧
    (∀ t s, lenR D t (.str s) objs K = strK (D t).kind (K (.int .i64 s.length) objs 0)) ∧
    (∀ t sz xs q, lenR D t (.sl sz xs q) objs K = slK (D t).kind fun _ => K (.int .i64 xs.length) objs 0) ∧
    (∀ t k ver, lenR D t (.osl k ver) objs K = slK (D t).kind fun _ => ∃ o, objs[k]? = some o ∧ o.live = true ∧ o.ver = ver ∧ K (.int .i64 o.xs.length) objs (4 + 2 * k)) ∧
    (∀ t s lo hi, q1x D t (.str s) lo hi objs K = strK (D t).kind (q03 lo 0 fun l => q03 hi s.length fun h => 0 ≤ l ∧ l ≤ h ∧ h ≤ s.length ∧ K (.str ((s.take h.toNat).drop l.toNat)) objs 0)) ∧
    (∀ t sz xs q lo hi, q1x D t (.sl sz xs q) lo hi objs K = slK (D t).kind fun e => (D e).kind ≠ .none ∧ (xs = [] ∨ (D e).size = sz) ∧ q03 lo 0 fun l => q03 hi xs.length fun h => 0 ≤ l ∧ l ≤ h ∧ h ≤ xs.length ∧
      K (.sl sz ((xs.take h.toNat).drop l.toNat) q) objs 0) ∧
    (∀ t k ver lo hi, q1x D t (.osl k ver) lo hi objs K = slK (D t).kind fun e => (D e).kind ≠ .none ∧ ∃ o, objs[k]? = some o ∧ o.live = true ∧ o.ver = ver ∧ (D e).size = o.sz ∧ lo = none ∧ q03 hi o.xs.length fun h => 0 ≤ h ∧ h ≤ o.xs.length ∧
      K (.osl k (ver + 1)) (objs.set k { o with xs := o.xs.take h.toNat, ver := ver + 1 }) (5 + 2 * k)) := by
  refine ⟨fun t sz xs q k n => ?_, fun t k ver k' n => ?_, fun t cs k n => ?_, fun t k ver i f k' n => ?_, fun t s k n => ?_, fun t cs k n => ?_, fun _ _ _ => rfl, fun _ _ _ _ _ _ => rfl, fun _ _ _ => rfl, fun t s => ?_, fun t sz xs q => ?_, fun t k ver => ?_, fun t s lo hi => ?_, fun t sz xs q lo hi => ?_, fun t k ver lo hi => ?_⟩
  all_goals try simp only [q0j, q2z, lenR, q1x]
  all_goals cases (D t).kind <;> simp only [slK, arK, strK, atO]
  apply propext
  constructor
  · rintro ⟨h1, h2, y, h3, h4, h5⟩; exact ⟨h1, h2, h4, y, h3, h5⟩
  · rintro ⟨h1, h2, h4, y, h3, h5⟩; exact ⟨h1, h2, y, h3, h4, h5⟩
theorem ldR (objs : List Obj) (K : KT) :
    (∀ ti x, loadR ti (.addr x) objs K = (ti.kind ≠ .none ∧ x.cells.length = ti.size ∧ x.isAgg = ti.agg ∧ K x objs 0)) ∧
    (∀ ti k ver i f, loadR ti (.optr k ver i f) objs K = ∃ o e, objs[k]? = some o ∧ o.live = true ∧ o.ver = ver ∧ o.xs[i]? = some e ∧ ti.kind ≠ .none ∧ f + ti.size ≤ e.cells.length ∧
      (ti.agg = false → ti.size = 1) ∧ e.cells.all (fun c => !c.isAgg) = true ∧ K (sub e.cells f ti.size ti.agg) objs (4 + 2 * k)) := ⟨fun _ _ => rfl, fun _ _ _ _ _ => rfl⟩
theorem srcK (D : TypeId → TInfo) (objs : List Obj) (K : List PV → Bool → Prop) :
    (∀ t sz xs q, srcR D t (.sl sz xs q) objs K = slK (D t).kind fun _ => K xs false) ∧
    (∀ t k ver, srcR D t (.osl k ver) objs K = slK (D t).kind fun _ => ∃ o, objs[k]? = some o ∧ o.live = true ∧ o.ver = ver ∧ K o.xs true) ∧
    (∀ t s, srcR D t (.str s) objs K = strK (D t).kind (K (s.map fun b => .int .u8 b.toNat) false)) := by
  refine ⟨fun t sz xs q => ?_, fun t k ver => ?_, fun t s => ?_⟩
  all_goals simp only [srcR]
  all_goals cases (D t).kind <;> simp only [slK, strK]
@[congr] theorem srcR_congr {D : TypeId → TInfo} {t : TypeId} {x x' : PV} {objs objs' : List Obj} {K : List PV → Bool → Prop} (h : x = x') (ho : objs = objs') : srcR D t x objs K = srcR D t x' objs' K := by rw [h, ho]
theorem ntR : noTwo [] = true ∧ (∀ l, noTwo (0 :: l) = noTwo l) ∧ (∀ l, noTwo (1 :: l) = noTwo l) ∧ (∀ l, noTwo (4 :: l) = noTwo l) ∧ (∀ l, noTwo (6 :: l) = noTwo l) ∧ (∀ l, noTwo (8 :: l) = noTwo l) ∧ (∀ l, noTwo (10 :: l) = noTwo l) :=
  ⟨rfl, fun _ => rfl, fun _ => rfl, fun _ => rfl, fun _ => rfl, fun _ => rfl, fun _ => rfl⟩
theorem rowR {α : Type} {E : List α → PV} {sz : Nat} {enc : α → PV} (hE : ∀ l, E l = .sl sz (l.map enc) none) (D : TypeId → TInfo) (objs : List Obj) (K : KT) :
    (∀ t l k n, q0j D t (E l) (.int k n) objs K = slK (D t).kind fun e => (D e).kind ≠ .none ∧ 0 ≤ n ∧ (D e).size = sz ∧ atO l[n.toNat]? (HK.mk : HK fun y => K (.addr (enc y)) objs 0)) ∧
    (∀ t l, lenR D t (E l) objs K = slK (D t).kind fun _ => K (.int .i64 l.length) objs 0) ∧
    (∀ t l lo hi, q1x D t (E l) lo hi objs K = slK (D t).kind fun e => (D e).kind ≠ .none ∧ (l = [] ∨ (D e).size = sz) ∧ q03 lo 0 fun a => q03 hi l.length fun h => 0 ≤ a ∧ a ≤ h ∧ h ≤ l.length ∧
      K (E ((l.take h.toNat).drop a.toNat)) objs 0) := by
  refine ⟨fun t l k n => ?_, fun t l => ?_, fun t l lo hi => ?_⟩
  all_goals simp only [hE, (genR D objs K).1, (genR D objs K).2.2.2.2.2.2.2.2.2.2.1, (genR D objs K).2.2.2.2.2.2.2.2.2.2.2.2.2.1]
  all_goals cases (D t).kind <;> simp only [slK, atO, List.length_map, List.map_eq_nil_iff, List.map_drop, List.map_take]
  apply propext
  constructor
  · rintro ⟨h1, h2, h4, y, h3, h5⟩
    rw [List.getElem?_map] at h3
    cases hx : l[n.toNat]? with
    | none => rw [hx] at h3; simp at h3
    | some x => rw [hx] at h3; simp only [Option.map_some, Option.some.injEq] at h3; exact ⟨h1, h2, h4, x, rfl, h3 ▸ h5⟩
  · rintro ⟨h1, h2, h4, y, h3, h5⟩
    exact ⟨h1, h2, h4, enc y, by rw [List.getElem?_map, h3]; rfl, h5⟩
theorem rowS {α : Type} {E : List α → PV} {sz : Nat} {enc : α → PV} (hE : ∀ l, E l = .sl sz (l.map enc) none) (D : TypeId → TInfo) (objs : List Obj) (K : List PV → Bool → Prop) :
    (∀ t l, srcR D t (E l) objs K = slK (D t).kind fun _ => K (l.map enc) false) := by
  intro t l
  rw [hE]
  exact (srcK D objs K).1 ..
theorem rowC {α : Type} {E : List α → PV} {sz : Nat} {enc : α → PV} (hE : ∀ l, E l = .sl sz (l.map enc) none) :
    (∀ l, (E l).cells = [E l]) ∧ (∀ l, (E l).isAgg = false) ∧ (∀ l, (E l).pure = true) ∧ (∀ l, (E l).ref = false) ∧ (∀ l, (E l).solid = true) ∧ (∀ l, (E l).storable = true) ∧
    (∀ d n O l, frz d n O (E l) = E l) ∧ (∀ d n O l, frzT d n O (E l) = E l) := by
  refine ⟨fun l => ?_, fun l => ?_, fun l => ?_, fun l => ?_, fun l => ?_, fun l => ?_, fun _ _ _ l => ?_, fun _ _ _ l => ?_⟩
  all_goals rw [hE]; rfl
def ofE {α : Type} (E : α → PV) {K : α → Prop} (x : PV) (_h : HK K) : Prop := ∃ v, x = E v ∧ K v
theorem q0p {α : Type} {E : α → PV} (hE : ∀ a b, E a = E b → a = b) (K : α → Prop) (v : α) : ofE E (E v) (HK.mk : HK K) = K v :=
  propext ⟨fun ⟨w, h, hk⟩ => hE v w h ▸ hk, fun hk => ⟨v, rfl, hk⟩⟩
theorem q7t {α : Type} {E : List α → PV} {sz : Nat} {enc : α → PV} (hE : ∀ l, E l = .sl sz (l.map enc) none) (he : ∀ a b, enc a = enc b → a = b) : ∀ a b, E a = E b → a = b := by
  intro a b h
  rw [hE, hE] at h
  injection h with _ h _
  induction a generalizing b with
  | nil => cases b with
    | nil => rfl
    | cons y ys => simp at h
  | cons x xs ih => cases b with
    | nil => simp at h
    | cons y ys =>
      simp only [List.map_cons, List.cons.injEq] at h
      rw [he x y h.1, ih ys h.2]
theorem exS {α : Type} (a : α) (q : α → Prop) : (∃ o, some a = some o ∧ q o) = q a := by simp
theorem stoR : (∀ k n, PV.storable (.int k n) = true) ∧ (∀ b, PV.storable (.bool b) = true) ∧ (∀ s, PV.storable (.str s) = true) ∧ (∀ z xs q, PV.storable (.sl z xs q) = true) ∧
    (∀ k v, PV.storable (.osl k v) = true) ∧ (∀ k v i f, PV.storable (.optr k v i f) = true) ∧ (∀ x, PV.storable (.addr x) = true) :=
  ⟨fun _ _ => rfl, fun _ => rfl, fun _ => rfl, fun _ _ _ => rfl, fun _ _ => rfl, fun _ _ _ _ => rfl, fun _ => rfl⟩
theorem mapApp {α β : Type} (f : α → β) (l m : List α) : l.map f ++ m.map f = (l ++ m).map f := by simp
def Inert {α : Type} (enc : α → PV) : Prop := ∀ d n objs x, PV.mapCells (frzI d n objs) (enc x) = enc x
theorem q4s {α : Type} {E : List α → PV} {sz : Nat} {enc : α → PV} (hE : ∀ l, E l = .sl sz (l.map enc) none) (h : Inert enc) :
    (∀ d ty l v rest, frz (d + 1) 0 (⟨ty, sz, l.map enc, true, v⟩ :: rest) (.osl 0 v) = E l) ∧
    (∀ d ty l v o rest, frz (d + 1) 0 (o :: ⟨ty, sz, l.map enc, true, v⟩ :: rest) (.osl 1 v) = E l) ∧
    (∀ d ty l v o o' rest, frz (d + 1) 0 (o :: o' :: ⟨ty, sz, l.map enc, true, v⟩ :: rest) (.osl 2 v) = E l) := by
  have key : ∀ d ty l v objs k, objs[k]? = some ⟨ty, sz, l.map enc, true, v⟩ → frz (d + 1) 0 objs (.osl k v) = E l := by
    intro d ty l v objs k hk
    simp only [frz, Nat.not_lt_zero, if_false, frzI, hk, Nat.zero_le, decide_true, Bool.and_self, BEq.rfl, if_true]
    rw [hE]
    congr 1
    rw [List.map_map]
    exact List.map_congr_left fun x _ => h d 0 objs x
  exact ⟨fun d ty l v rest => key d ty l v _ 0 rfl, fun d ty l v o rest => key d ty l v _ 1 rfl, fun d ty l v o o' rest => key d ty l v _ 2 rfl⟩
theorem rowA {α : Type} {enc : α → PV} {sz : Nat} (h1 : ∀ x, (enc x).cells.length = sz) (h2 : ∀ x, (enc x).cells.all PV.storable = true) (l : List α) :
    (∀ y, y ∈ l.map enc → y.cells.length = sz ∧ y.cells.all PV.storable = true) = True := by
  refine eq_true fun y hy => ?_
  obtain ⟨x, _, rfl⟩ := List.mem_map.1 hy
  exact ⟨h1 x, h2 x⟩
theorem rowA1 (y0 : PV) (sz : Nat) : (∀ y, y ∈ [y0] → y.cells.length = sz ∧ y.cells.all PV.storable = true) = (y0.cells.length = sz ∧ y0.cells.all PV.storable = true) := by simp
theorem neO (E : PV) (h : E.ref = false) (k : Nat) : (∀ k' v' : Nat, E = .osl k' v' → ¬ k' = k) = True := by
  refine eq_true fun k' v' he => ?_
  rw [he] at h; cases h
def keepA : List Bool → Nat → List (Nat × PV) → List (Nat × PV)
  | [], _, _ => []
  | true :: ks, i, l => (i, lkA l i) :: keepA ks (i + 1) l
  | false :: ks, i, l => keepA ks (i + 1) l
theorem lkA_keep : ∀ (ks : List Bool) (j : Nat) (l : List (Nat × PV)) (i : Nat), lkA (keepA ks j l) i = if j ≤ i ∧ ks[i - j]? = some true then lkA l i else .dead
  | [], j, l, i => by simp [keepA, lkA]
  | true :: ks, j, l, i => by
    simp only [keepA, lkA]
    by_cases h : i = j
    · subst h; simp
    · rw [if_neg h, lkA_keep ks (j + 1) l i]
      by_cases hj : j + 1 ≤ i
      · have e : i - j = (i - (j + 1)) + 1 := by omega
        simp only [e, List.getElem?_cons_succ, hj, true_and, show j ≤ i by omega]
      · rw [if_neg (by omega), if_neg (by omega)]
  | false :: ks, j, l, i => by
    simp only [keepA]
    rw [lkA_keep ks (j + 1) l i]
    by_cases h : i = j
    · subst h; rw [if_neg (by omega), if_neg (by simp)]
    · by_cases hj : j + 1 ≤ i
      · have e : i - j = (i - (j + 1)) + 1 := by omega
        simp only [e, List.getElem?_cons_succ, hj, true_and, show j ≤ i by omega]
      · rw [if_neg (by omega), if_neg (by omega)]
theorem fgt_keep (ks : List Bool) (n : Nat) (l : List (Nat × PV)) : fgt ks (tmA n l) = tmA n (keepA ks 0 l) := by
  refine q9x (by simp [q2w, q3y]) fun i hi => ?_
  rw [fgt_get?, q7s, if_pos hi, lkA_keep]
  simp
theorem normR :
    (∀ ks n l ob, St.norm ks none ⟨tmA n l, ob⟩ = ⟨tmA n (keepA ks 0 l), ob⟩) ∧
    (∀ ks d k n l ob, St.norm ks (some (d, k)) ⟨tmA n l, ob⟩ = St.freeze d k ⟨tmA n (keepA ks 0 l), ob⟩) := by
  refine ⟨fun ks n l ob => ?_, fun ks d k n l ob => ?_⟩
  · simp only [St.norm, St.forget, fgt_keep]
  · simp only [St.norm, St.forget, fgt_keep]
theorem keepR : (∀ i l, keepA [] i l = []) ∧ (∀ ks i l, keepA (true :: ks) i l = (i, lkA l i) :: keepA ks (i + 1) l) ∧ (∀ ks i l, keepA (false :: ks) i l = keepA ks (i + 1) l) :=
  ⟨fun _ _ => rfl, fun _ _ _ => rfl, fun _ _ _ => rfl⟩
theorem caR2 (T : Know) (K : KT) (objs : List Obj) (pt : Bool) :
    (∀ g args, callT T pt (.fn g [] []) args objs K = T.fn g args objs K) ∧
    (∀ g c, callT T pt (.fn g [] [c]) [] objs K = T.fn g [c] objs K) ∧
    (∀ g c a, callT T pt (.fn g [] [c]) [a] objs K = T.fn g [a, c] objs K) ∧
    (∀ g c a b, callT T pt (.fn g [] [c]) [a, b] objs K = T.fn g [a, b, c] objs K) ∧
    (∀ g c d a, callT T pt (.fn g [] [c, d]) [a] objs K = T.fn g [a, c, d] objs K) ∧
    (∀ g c d a b, callT T pt (.fn g [] [c, d]) [a, b] objs K = T.fn g [a, b, c, d] objs K) ∧
    (∀ l args, callT T pt (.yld l) args objs K = (l = T.y ∧ pt = true ∧ args.all PV.pure = true ∧ T.Y args objs fun b o => K (.bool b) o 2)) := by
  refine ⟨fun g args => ?_, fun _ _ => rfl, fun _ _ _ => rfl, fun _ _ _ _ => rfl, fun _ _ _ _ => rfl, fun _ _ _ _ _ => rfl, fun _ _ => rfl⟩
  simp [callT]
theorem taR3 (K : KT) (objs : List Obj) (args : List PV) (c : Ctr) (l : List (FuncId × Ctr)) (f : FuncId) :
    (tabF ((f, c) :: l) f args objs K = c args objs K) ∧ (∀ g, (f == g) = false → tabF ((g, c) :: l) f args objs K = tabF l f args objs K) := by
  refine ⟨by simp [tabF], fun g h => ?_⟩
  rw [taR, h]; rfl
@[congr] theorem builtinR_congr {D : TypeId → TInfo} {b : Builtin} {ats ats' : List TypeId} {args args' : List Operand} {ev : Operand → PV} {objs : List Obj} {K : KT} (h : ats = ats') (h1 : args = args') : q13 D b ats args ev objs K = q13 D b ats' args' ev objs K := by rw [h, h1]
theorem opsR2 (P : Program) (D : TypeId → TInfo) (T : Know) (w pt : Bool) (ev : Operand → PV) (objs : List Obj) (K : KT) :
    (∀ x, opT P D T w pt ev objs (.move x) K = K (ev x) objs 0) ∧ (∀ x, opT P D T w pt ev objs (.assign x) K = K (ev x) objs 0) ∧
    (∀ c x y, opT P D T w pt ev objs (.pick c x y) K = pickR (ev c) (ev x) (ev y) objs K) ∧
    (∀ t, opT P D T w pt ev objs (.alloc t) K = q0b t (D t) objs K) ∧
    (∀ t x, opT P D T w pt ev objs (.box t x) K = boxR t (D t) (ev x) objs K) ∧
    (∀ t ps, opT P D T w pt ev objs (.build t ps) K = q1p D t (ps.toList.map fun x => (x.1, ev x.2)) objs K) ∧
    (∀ t n ps, opT P D T w pt ev objs (.buildSlice t n ps) K = q00 D w t n (ps.toList.map fun x => (x.1, ev x.2)) objs K) ∧
    (∀ t x, opT P D T w pt ev objs (.load t x) K = loadR (D t) (ev x) objs K) ∧
    (∀ t x y, opT P D T w pt ev objs (.store t x y) K = q0a (D t) (ev x) (ev y) objs K) ∧
    (∀ x, opT P D T w pt ev objs (.nilCheck x) K = q0q (ev x) objs K) ∧
    (∀ b t x y t', opT P D T w pt ev objs (.binOp b t x y t') K = binR P (D t) t b (ev x) (ev y) fun r => K r objs 0) ∧
    (∀ u t x, opT P D T w pt ev objs (.unOp u t x) K = unR u (ev x) fun r => K r objs 0) ∧
    (∀ s t x, opT P D T w pt ev objs (.convert s t x) K = convO D s t (ev x) objs K) ∧
    (∀ f first cap, opT P D T w pt ev objs (.makeFunc (.func f) first cap) K = q04 f (first.toList.map ev) (cap.toList.map ev) objs K) ∧
    (∀ t l c, opT P D T w pt ev objs (.makeSlice t l c) K = q02 D t (ev l) (ev c) objs K) ∧
    (∀ t x lo hi, opT P D T w pt ev objs (.slice t x lo hi none) K = q1x D t (ev x) (lo.map ev) (hi.map ev) objs K) ∧
    (∀ t x f, opT P D T w pt ev objs (.fieldAddr t x f) K = q0i D t (ev x) f objs K) ∧
    (∀ t x f, opT P D T w pt ev objs (.field t x f) K = q4n D t (ev x) f objs K) ∧
    (∀ t x i, opT P D T w pt ev objs (.indexAddr t x i) K = q0j D t (ev x) (ev i) objs K) ∧
    (∀ t x i, opT P D T w pt ev objs (.index t x i) K = q2z D t (ev x) (ev i) objs K) ∧
    (∀ x i, opT P D T w pt ev objs (.extract x i) K = q17 (ev x) i objs K) ∧
    (∀ t x, opT P D T w pt ev objs (.call { callee := .builtin .len, args := ⟨[x]⟩, argTypes := ⟨[t]⟩ }) K = lenR D t (ev x) objs K) ∧
    (∀ t u s x, opT P D T w pt ev objs (.call { callee := .builtin .append, args := ⟨[s, x]⟩, argTypes := ⟨[t, u]⟩ }) K = q07 D t u (ev s) (ev x) objs K) ∧
    (∀ x y ats, opT P D T w pt ev objs (.call { callee := .builtin .max, args := ⟨[x, y]⟩, argTypes := ats }) K = q08 true [ev x, ev y] fun r => K r objs 0) ∧
    (∀ x y ats, opT P D T w pt ev objs (.call { callee := .builtin .min, args := ⟨[x, y]⟩, argTypes := ats }) K = q08 false [ev x, ev y] fun r => K r objs 0) ∧
    (∀ f args ats, opT P D T w pt ev objs (.call { callee := .value f, args := args, argTypes := ats }) K = callT T pt (ev f) (args.toList.map ev) objs K) :=
  ⟨fun _ => rfl, fun _ => rfl, fun _ _ _ => rfl, fun _ => rfl, fun _ _ => rfl, fun _ _ => rfl, fun _ _ _ => rfl, fun _ _ => rfl, fun _ _ _ => rfl, fun _ => rfl, fun _ _ _ _ _ => rfl, fun _ _ _ => rfl, fun _ _ _ => rfl,
   fun _ _ _ => rfl, fun _ _ _ => rfl, fun _ _ _ _ => rfl, fun _ _ _ => rfl, fun _ _ _ => rfl, fun _ _ _ => rfl, fun _ _ _ => rfl, fun _ _ => rfl, fun _ _ => rfl, fun _ _ _ _ => rfl, fun _ _ _ => rfl, fun _ _ _ => rfl, fun _ _ _ => rfl⟩
theorem exS2 {α β : Type} (a : α) (q : α → β → Prop) : (∃ o e, some a = some o ∧ q o e) = ∃ e, q a e := by simp
theorem setRow {α : Type} {enc : α → PV} (h : ∀ x y : α, (enc x).putCells 0 (enc y).cells = enc y) (l : List α) (i : Nat) (x y : α) : (l.map enc).set i ((enc x).putCells 0 (enc y).cells) = (l.set i y).map enc := by
  rw [h, List.map_set]
theorem lrR3 (P : Program) (D : TypeId → TInfo) (T : Know) :
    (∀ S ts (K : St → List Nat → Prop), LR P D T [] S ts K = K S ts) ∧
    (∀ d o w rest n l ob ts (K : St → List Nat → Prop), LR P D T (⟨some d, o, none, w⟩ :: rest) ⟨tmA n l, ob⟩ ts K =
      opT P D T w ((tmA n l).all PV.pure) (St.ev ⟨tmA n l, ob⟩) ob o fun r objs' t => LR P D T rest ⟨tmA n ((d, r) :: l), objs'⟩ (ts ++ [t]) K) ∧
    (∀ o w rest n l ob ts (K : St → List Nat → Prop), LR P D T (⟨none, o, none, w⟩ :: rest) ⟨tmA n l, ob⟩ ts K =
      opT P D T w ((tmA n l).all PV.pure) (St.ev ⟨tmA n l, ob⟩) ob o fun r objs' t => LR P D T rest ⟨tmA n l, objs'⟩ (ts ++ [t]) K) ∧
    (∀ d o g v w rest n l ob ts (K : St → List Nat → Prop), LR P D T (⟨some d, o, some (some g, v), w⟩ :: rest) ⟨tmA n l, ob⟩ ts K =
      q34 ((tmA n l).getD g .dead) g v ⟨tmA n l, ob⟩ (fun S => LR P D T (⟨some d, o, none, w⟩ :: rest) S ts K) (fun S => LR P D T rest (S.put (some d) (.tup [])) (ts ++ [0]) K)) ∧
    (∀ o g v w rest n l ob ts (K : St → List Nat → Prop), LR P D T (⟨none, o, some (some g, v), w⟩ :: rest) ⟨tmA n l, ob⟩ ts K =
      q34 ((tmA n l).getD g .dead) g v ⟨tmA n l, ob⟩ (fun S => LR P D T (⟨none, o, none, w⟩ :: rest) S ts K) (fun S => LR P D T rest S (ts ++ [0]) K)) := by
  refine ⟨fun _ _ _ => rfl, fun d o w rest n l ob ts K => ?_, fun o w rest n l ob ts K => rfl, fun d o g v w rest n l ob ts K => rfl, fun o g v w rest n l ob ts K => rfl⟩
  simp only [← taR2.1]
  rfl
theorem guR3 :
    (∀ b d n l ob (X Y : St → Prop), q34 (.bool b) d true ⟨tmA n l, ob⟩ X Y = ifP b (X ⟨tmA n ((d, .bool true) :: l), ob⟩) (Y ⟨tmA n ((d, .bool false) :: l), ob⟩)) ∧
    (∀ b d n l ob (X Y : St → Prop), q34 (.bool b) d false ⟨tmA n l, ob⟩ X Y = ifP b (Y ⟨tmA n ((d, .bool true) :: l), ob⟩) (X ⟨tmA n ((d, .bool false) :: l), ob⟩)) ∧
    (∀ d w (S : St) (X Y : St → Prop), q34 (.tup []) d w S X Y = Y S) := by
  refine ⟨fun b d n l ob X Y => ?_, fun b d n l ob X Y => ?_, fun _ _ _ _ _ => rfl⟩
  · simp only [guR2, taR2.1]
  · simp only [guR2, taR2.1]
theorem putR3 : (∀ n l ob d p, St.put ⟨tmA n l, ob⟩ (some d) p = ⟨tmA n ((d, p) :: l), ob⟩) := fun n l ob d p => by
  rw [← taR2.1]; rfl
theorem FnOk.pureG {P : Program} {D : TypeId → TInfo} {T : Know} {f : FuncId} {n t : Nat} {C : LC} {args : List PV} {r : PV} (h : FnOk P f n [.tmp t] C) (d : Nat) (hD : ∀ t, TOk P t (D t)) (hT : KOk P none Etop T) (hm : P.follows .mixedOrders = true) (ht : t < n)
    (hw : ∀ Q : Exit → St → Prop, (∀ l ob, Q .ret ⟨tmA n l, ob⟩ = (r = frzT d 0 ob (lkA l t))) → wpc P D T C Q (q0s args n)) : FnSpec P f args [] r [] := by
  refine h.pure d hD hT hm (by simp) (hw _ fun l ob => ?_)
  simp only [retR, outL, taR2.2.1 n l t ht, List.map_cons, List.map_nil, onePV]
theorem FnOk.pureG2 {P : Program} {D : TypeId → TInfo} {T : Know} {f : FuncId} {n t u : Nat} {C : LC} {args : List PV} {r : PV} (h : FnOk P f n [.tmp t, .tmp u] C) (d : Nat) (hD : ∀ t, TOk P t (D t)) (hT : KOk P none Etop T) (hm : P.follows .mixedOrders = true) (ht : t < n) (hu : u < n)
    (hw : ∀ Q : Exit → St → Prop, (∀ l ob, Q .ret ⟨tmA n l, ob⟩ = (r = .tup [frzT d 0 ob (lkA l t), frzT d 0 ob (lkA l u)])) → wpc P D T C Q (q0s args n)) : FnSpec P f args [] r [] := by
  refine h.pure d hD hT hm (by simp) (hw _ fun l ob => ?_)
  simp only [retR, outL, taR2.2.1 n l t ht, taR2.2.1 n l u hu, List.map_cons, List.map_nil, onePV]
theorem pkR (x y : PV) (objs : List Obj) (K : KT) : (pickR (.bool true) x y objs K = K x objs 0) ∧ (pickR (.bool false) x y objs K = K y objs 0) := ⟨rfl, rfl⟩
theorem preZ :
    type_of% @wpR ∧
    type_of% @knR ∧
    type_of% @kiR ∧
    type_of% @lrR3 ∧
    type_of% @exR2 ∧
    type_of% @guR3 ∧
    type_of% @putR3 ∧
    type_of% @hoR ∧
    type_of% @ifR ∧
    type_of% @opsR2 ∧
    type_of% @taR3 ∧
    type_of% @q1t ∧
    type_of% @biI ∧
    type_of% @exmap ∧
    type_of% @exi ∧
    type_of% @exi2 ∧
    type_of% @srcK ∧
    type_of% @skR ∧
    type_of% @atR ∧
    type_of% @exS ∧
    type_of% @exS2 :=
  ⟨@wpR, @knR, @kiR, @lrR3, @exR2, @guR3, @putR3, @hoR, @ifR, @opsR2, @taR3, @q1t, @biI, @exmap, @exi, @exi2, @srcK, @skR, @atR, @exS, @exS2⟩
theorem postZ :
    type_of% @knR ∧
    type_of% @kiR ∧
    type_of% @lkR ∧
    type_of% @taR2 ∧
    type_of% @startA ∧
    type_of% @guR3 ∧
    type_of% @ifR ∧
    type_of% @stR2 ∧
    type_of% @retR ∧
    type_of% @retMR ∧
    type_of% @frR ∧
    type_of% @fzR ∧
    type_of% @tmR ∧
    type_of% @normR ∧
    type_of% @keepR ∧
    type_of% @caR2 ∧
    type_of% @taR3 ∧
    type_of% @q1t ∧
    type_of% @pkR ∧
    type_of% @biR ∧
    type_of% @biI ∧
    type_of% @inRR ∧
    type_of% @obR ∧
    type_of% @agR ∧
    type_of% @subR ∧
    type_of% @isR ∧
    type_of% @alR ∧
    type_of% @genR ∧
    type_of% @ldR ∧
    type_of% @srcK ∧
    type_of% @skR ∧
    type_of% @ntR ∧
    type_of% @atR ∧
    type_of% @stoR ∧
    type_of% @puR ∧
    type_of% @mapApp ∧
    type_of% @rowA1 :=
  ⟨@knR, @kiR, @lkR, @taR2, @startA, @guR3, @ifR, @stR2, @retR, @retMR, @frR, @fzR, @tmR, @normR, @keepR, @caR2, @taR3, @q1t, @pkR, @biR, @biI, @inRR, @obR, @agR, @subR, @isR, @alR, @genR, @ldR, @srcK, @skR, @ntR, @atR, @stoR, @puR, @mapApp, @rowA1⟩
theorem coreZ :
    type_of% @decide_true ∧
    type_of% @decide_false ∧
    type_of% @not_true_eq_false ∧
    type_of% @not_false_eq_true ∧
    type_of% @false_and ∧
    type_of% @and_false ∧
    type_of% @cond_true.{1} ∧
    type_of% @cond_false.{1} ∧
    type_of% @List.take_zero.{0} ∧
    type_of% @ne_eq.{1} ∧
    type_of% @true_and ∧
    type_of% @PV.bool.injEq ∧
    type_of% @Int.toNat_natCast ∧
    type_of% @Int.toNat_zero ∧
    type_of% @Bool.not_false ∧
    type_of% @Bool.not_true ∧
    type_of% @Bool.and_self ∧
    type_of% @Bool.false_eq_true ∧
    type_of% @Bool.true_eq_false ∧
    type_of% @forall_const.{1} ∧
    type_of% @false_implies ∧
    type_of% @true_implies ∧
    type_of% @and_true ∧
    type_of% @implies_true.{1} ∧
    type_of% @implies_true.{0} ∧
    type_of% @forall_const.{0} ∧
    type_of% @Nat.zero_add ∧
    type_of% @List.length_map.{0,0} ∧
    type_of% @List.length_cons.{0} ∧
    type_of% @List.length_nil.{0} ∧
    type_of% @List.nil_append.{0} ∧
    type_of% @List.map_cons.{0,0} ∧
    type_of% @List.map_nil.{0,0} ∧
    type_of% @Bool.true_or ∧
    type_of% @List.getElem?_cons_zero.{0} ∧
    type_of% @List.getElem?_cons_succ.{0} ∧
    type_of% @Option.map_some.{0,0} ∧
    type_of% @or_true ∧
    type_of% @List.getElem?_map.{0,0} ∧
    type_of% @List.length_replicate.{0} ∧
    type_of% @List.all_cons.{0} ∧
    type_of% @List.all_nil.{0} ∧
    type_of% @Bool.and_true ∧
    type_of% @Bool.true_and ∧
    type_of% @Bool.false_or ∧
    type_of% @Bool.or_false ∧
    type_of% @Nat.le_refl ∧
    type_of% @Nat.lt_add_one ∧
    type_of% @List.length_append.{0} :=
  ⟨@decide_true, @decide_false, @not_true_eq_false, @not_false_eq_true, @false_and, @and_false, @cond_true.{1}, @cond_false.{1}, @List.take_zero.{0}, @ne_eq.{1}, @true_and, @PV.bool.injEq, @Int.toNat_natCast, @Int.toNat_zero, @Bool.not_false, @Bool.not_true, @Bool.and_self, @Bool.false_eq_true, @Bool.true_eq_false, @forall_const.{1}, @false_implies, @true_implies, @and_true, @implies_true.{1}, @implies_true.{0}, @forall_const.{0}, @Nat.zero_add, @List.length_map.{0,0}, @List.length_cons.{0}, @List.length_nil.{0}, @List.nil_append.{0}, @List.map_cons.{0,0}, @List.map_nil.{0,0}, @Bool.true_or, @List.getElem?_cons_zero.{0}, @List.getElem?_cons_succ.{0}, @Option.map_some.{0,0}, @or_true, @List.getElem?_map.{0,0}, @List.length_replicate.{0}, @List.all_cons.{0}, @List.all_nil.{0}, @Bool.and_true, @Bool.true_and, @Bool.false_or, @Bool.or_false, @Nat.le_refl, @Nat.lt_add_one, @List.length_append.{0}⟩
end Lp

/-! LpEq -/

namespace Lp
open Go
variable {P : Program}
def fitT : Option TypeDesc → PV → PV → Bool
  | some (.int k), .int k1 _, .int k2 _ => decide (k1 = k2)
  | some .bool, .bool _, .bool _ => true
  | some .string, .str _, .str _ => true
  | _, _, _ => false
def fitF (P : Program) : Nat → List Field → List PV → List PV → Bool
  | _, [], [], [] => true
  | k, f :: fs, p :: aa, q :: bs => (f.name != "_") && f.offset == k && fitT (P.underlying f.type) p q && fitF P (k + 1) fs aa bs
  | _, _, _, _ => false
theorem part_run {w : World} {t : TypeId} {xs : Array Value} {o : Nat} {v : Value} {d : TypeDesc} (hu : P.underlying t = some d) (hd : (∃ k, d = .int k) ∨ d = .bool ∨ d = .string) (hv : xs[o]? = some v) : (part t xs o).run P w = .ok v w := by
  rcases hd with ⟨k, rfl⟩ | rfl | rfl
  all_goals simp [part, isAgg, run_underlying hu, hv]
theorem eq_run {w : World} {d : Nat} {t : TypeId} {p q : PV} {v u : Value} {ok : Nat → Prop} (hf : fitT (P.underlying t) p q = true) (hv : Rep w ok p v) (hu : Rep w ok q u) :
    ∃ b, eqS p q = some b ∧ (Op.equalIn (d + 1) t v u).run P w = .ok b w ∧ ∃ e, P.underlying t = some e ∧ ((∃ k, e = .int k) ∨ e = .bool ∨ e = .string) := by
  unfold fitT at hf
  split at hf
  · rename_i k k1 a k2 b hk
    have : k1 = k2 := by simpa using hf
    subst this
    cases hv; cases hu
    exact ⟨decide (a = b), by simp [eqS], by rw [run_equalIn_int w d t k1 k a b hk]; rfl, _, hk, .inl ⟨_, rfl⟩⟩
  · rename_i a b hk
    cases hv; cases hu
    exact ⟨a == b, rfl, run_equalIn_bool' w d t a b hk, _, hk, .inr (.inl rfl)⟩
  · rename_i a b hk
    cases hv; cases hu
    refine ⟨decide (a = b), rfl, ?_, _, hk, .inr (.inr rfl)⟩
    rw [run_equalIn_string w d t _ _ hk]
    congr 1
    simp only [ByteArray.toList_eq]
    by_cases h : a = b
    · simp [h]
    · simp [h]
  · cases hf
theorem eqF_run {w : World} {d : Nat} {ok : Nat → Prop} {xs ys : Array Value} : ∀ (fs : List Field) (k : Nat) (aa bs : List PV) (r : Bool), fitF P k fs aa bs = true → eqL aa bs = some r →
    (∀ i p, aa[i]? = some p → ∃ v, xs[k + i]? = some v ∧ Rep w ok p v) → (∀ i p, bs[i]? = some p → ∃ v, ys[k + i]? = some v ∧ Rep w ok p v) →
    (Op.eqFields (d + 1) xs ys fs).run P w = .ok r w
  | [], k, aa, bs, r, hf, he, _, _ => by
    cases aa <;> cases bs <;> simp [fitF] at hf
    simp only [eqL, Option.some.injEq] at he
    subst he
    rfl
  | f :: fs, k, aa, bs, r, hf, he, ha, hb => by
    cases aa with
    | nil => cases bs <;> simp [fitF] at hf
    | cons p aa =>
      cases bs with
      | nil => simp [fitF] at hf
      | cons q bs =>
        simp only [fitF, Bool.and_eq_true, beq_iff_eq, bne_iff_ne] at hf
        obtain ⟨⟨⟨hn, ho⟩, ht⟩, hr⟩ := hf
        obtain ⟨v, hv, rv⟩ := ha 0 p rfl
        obtain ⟨u, hu, ru⟩ := hb 0 q rfl
        obtain ⟨b, hb1, hb2, e, he1, he2⟩ := eq_run (d := d) ht rv ru
        simp only [eqL, hb1] at he
        cases hq : eqL aa bs with
        | none => rw [hq] at he; simp at he
        | some r' =>
          rw [hq] at he
          simp only [Option.some.injEq] at he
          subst he
          have ih := eqF_run (w := w) (d := d) (ok := ok) (xs := xs) (ys := ys) fs (k + 1) aa bs r' hr hq (fun i p h => by have := ha (i + 1) p (by simpa using h); rwa [show k + (i + 1) = k + 1 + i by omega] at this) (fun i p h => by have := hb (i + 1) p (by simpa using h); rwa [show k + (i + 1) = k + 1 + i by omega] at this)
          have p1 := part_run (w := w) (xs := xs) (o := f.offset) he1 he2 (by rw [ho]; simpa using hv)
          have p2 := part_run (w := w) (xs := ys) (o := f.offset) he1 he2 (by rw [ho]; simpa using hu)
          simp only [Op.eqFields, ne_eq, hn, not_false_eq_true, if_true, Sem.run_bind, p1, Result.andThen_ok, p2, hb2]
          cases b
          · simp
          · simpa using ih
theorem eqOk_of {t : TypeId} {aa bs : List PV} (hg : P.eqGuardType P.depth t = false) (ht : P.underlying t = some (.struct (P.fieldsOf t))) (hp : P.stoodInHeld t = false) (hf : fitF P 0 (P.fieldsOf t).toList aa bs = true) : EqOk P t aa bs := by
  refine ⟨hg, fun w ok vs us r hr h1 h2 => ?_⟩
  have e : Op.equal t (.agg ⟨vs⟩) (.agg ⟨us⟩) = Op.equalIn (9999 + 1) t (.agg ⟨vs⟩) (.agg ⟨us⟩) := rfl
  rw [e, run_equalIn_struct w 9999 t _ _ ht hp]
  refine eqF_run (d := 9998) (ok := ok) _ 0 aa bs r hf hr ?_ ?_
  · intro i p hi
    have hlt := (List.getElem?_eq_some_iff.1 hi).1
    have hv : vs[i]? = some (vs[i]'(by rw [← h1.1]; exact hlt)) := List.getElem?_eq_getElem _
    exact ⟨_, by simpa using hv, h1.2 i p _ hi hv⟩
  · intro i p hi
    have hlt := (List.getElem?_eq_some_iff.1 hi).1
    have hv : us[i]? = some (us[i]'(by rw [← h2.1]; exact hlt)) := List.getElem?_eq_getElem _
    exact ⟨_, by simpa using hv, h2.2 i p _ hi hv⟩
end Lp

/-! LpU2 -/

namespace Lp
open Go Go.Proofs
def encT (l : List (List UInt8)) : PV := .sl 1 (l.map .str) none
def encL (l : List Vl) : PV := .sl 1 (l.map encV) none
def encI (l : List Int) : PV := .sl 1 (l.map (.int .i64)) none
def encG (l : List (List Int)) : PV := .sl 1 (l.map encI) none
theorem hV : ∀ l, encV l = .sl 6 (l.map encN) none := fun _ => rfl
theorem hT : ∀ l, encT l = .sl 1 (l.map .str) none := fun _ => rfl
theorem hL : ∀ l, encL l = .sl 1 (l.map encV) none := fun _ => rfl
theorem hI : ∀ l, encI l = .sl 1 (l.map (.int .i64)) none := fun _ => rfl
theorem hG : ∀ l, encG l = .sl 1 (l.map encI) none := fun _ => rfl
theorem q70 : ∀ a b, encN a = encN b → a = b := by
  intro a b h
  cases a; cases b
  simp only [encN, PV.agg.injEq, List.cons.injEq, PV.int.injEq, PV.str.injEq, PV.bool.injEq, true_and, and_true] at h
  obtain ⟨rfl, rfl, rfl, rfl, rfl, rfl⟩ := h
  rfl
theorem q4g : ∀ a b, encV a = encV b → a = b := q7t hV q70
theorem q71 : ∀ a b, encT a = encT b → a = b := q7t hT fun _ _ h => by injection h
theorem q72 : ∀ a b, encI a = encI b → a = b := q7t hI fun _ _ h => by injection h
theorem q8w : ∀ a b, encL a = encL b → a = b := q7t hL q4g
theorem q8x : ∀ a b, encG a = encG b → a = b := q7t hG q72
theorem nodeR (objs : List Obj) (K : KT) :
    (∀ n, q0i D t_api_Node (.addr (encN n)) 0 objs K = K (.addr (.int .i64 n.kind)) objs 0) ∧
    (∀ n, q0i D t_api_Node (.addr (encN n)) 1 objs K = K (.addr (.int .i64 n.many)) objs 0) ∧
    (∀ n, q0i D t_api_Node (.addr (encN n)) 2 objs K = K (.addr (.str n.name)) objs 0) ∧
    (∀ n, q0i D t_api_Node (.addr (encN n)) 3 objs K = K (.addr (.str n.s)) objs 0) ∧
    (∀ n, q0i D t_api_Node (.addr (encN n)) 4 objs K = K (.addr (.bool n.neg)) objs 0) ∧
    (∀ n, q0i D t_api_Node (.addr (encN n)) 5 objs K = K (.addr (.int .i64 n.e)) objs 0) := by
  refine ⟨fun n => ?_, fun n => ?_, fun n => ?_, fun n => ?_, fun n => ?_, fun n => ?_⟩
  all_goals
    simp only [encN, q0i, q01, D_all, ↓exi, agR, subR, tmR, isR, alR, ne_eq, reduceCtorEq, not_false_eq_true, true_and, Bool.not_false, Bool.and_self, Nat.reduceAdd, Nat.reduceLeDiff, forall_const]
theorem nodeC :
    (∀ n, (encN n).cells = [.int .i64 n.kind, .int .i64 n.many, .str n.name, .str n.s, .bool n.neg, .int .i64 n.e]) ∧
    (∀ n, (encN n).isAgg = true) ∧ (∀ n, (encN n).pure = true) ∧ (∀ d m O n, frz d m O (encN n) = encN n) ∧ (∀ d m O n, frzT d m O (encN n) = encN n) :=
  ⟨fun _ => rfl, fun _ => rfl, fun _ => rfl, fun _ _ _ _ => rfl, fun _ _ _ _ => rfl⟩
theorem eqOkN (a b : Nd) : EqOk Tryz.prog t_api_Node (encN a).cells (encN b).cells :=
  eqOk_of (by kernel_rfl) (by kernel_rfl) (by kernel_rfl) (by
    have h : (Tryz.prog.fieldsOf t_api_Node).toList.map (fun f => (f.name != "_", f.offset, Tryz.prog.underlying f.type)) = [(true, 0, some (.int .i64)), (true, 1, some (.int .i64)), (true, 2, some .string), (true, 3, some .string), (true, 4, some .bool), (true, 5, some (.int .i64))] := by kernel_rfl
    generalize (Tryz.prog.fieldsOf t_api_Node).toList = fs at h
    obtain _ | ⟨f0, _ | ⟨f1, _ | ⟨f2, _ | ⟨f3, _ | ⟨f4, _ | ⟨f5, _ | ⟨f6, fr⟩⟩⟩⟩⟩⟩⟩ := fs
    all_goals simp only [List.map_cons, List.map_nil, List.cons.injEq, Prod.mk.injEq, and_true, reduceCtorEq, and_false] at h
    obtain ⟨⟨a0, b0, c0⟩, ⟨a1, b1, c1⟩, ⟨a2, b2, c2⟩, ⟨a3, b3, c3⟩, ⟨a4, b4, c4⟩, ⟨a5, b5, c5⟩⟩ := h
    simp only [fitF, fitT, encN, PV.cells, a0, b0, c0, a1, b1, c1, a2, b2, c2, a3, b3, c3, a4, b4, c4, a5, b5, c5, Bool.and_true, BEq.rfl, decide_true, Nat.zero_add, Nat.reduceAdd])
theorem eqLN (a b : Nd) : eqL (encN a).cells (encN b).cells = some (decide (a = b)) := by
  cases a; cases b
  simp only [encN, PV.cells, eqL, eqS, if_true, Bool.and_true, Nd.mk.injEq, Option.some.injEq]
  rw [Bool.eq_iff_iff]
  simp
theorem nodeEq (ti : TInfo) (K : PV → Prop) :
    (∀ a b, binR Tryz.prog ti t_api_Node .eql (encN a) (encN b) K = K (.bool (decide (a = b)))) ∧
    (∀ a b, binR Tryz.prog ti t_api_Node .neq (encN a) (encN b) K = K (.bool (!decide (a = b)))) ∧
    (∀ a k m x y g e, binR Tryz.prog ti t_api_Node .eql (encN a) (.agg [.int .i64 k, .int .i64 m, .str x, .str y, .bool g, .int .i64 e]) K = K (.bool (decide (a = ⟨k, m, x, y, g, e⟩)))) := by
  have h : ∀ a b, binR Tryz.prog ti t_api_Node .eql (encN a) (encN b) K = K (.bool (decide (a = b))) := fun a b => by
    show (EqOk Tryz.prog t_api_Node (encN a).cells (encN b).cells ∧ ∃ r, eqL (encN a).cells (encN b).cells = some r ∧ K (.bool r)) = _
    rw [eqLN]
    simp [eqOkN]
  refine ⟨h, fun a b => ?_, fun a k m x y g e => h a ⟨k, m, x, y, g, e⟩⟩
  show (EqOk Tryz.prog t_api_Node (encN a).cells (encN b).cells ∧ ∃ r, eqL (encN a).cells (encN b).cells = some r ∧ K (.bool (!r))) = _
  rw [eqLN]
  simp [eqOkN]
theorem nodeP (n : Nd) :
    (∀ x, (encN n).putCells 0 [.int .i64 x] = encN { n with kind := x }) ∧ (∀ x, (encN n).putCells 1 [.int .i64 x] = encN { n with many := x }) ∧
    (∀ x, (encN n).putCells 2 [.str x] = encN { n with name := x }) ∧ (∀ x, (encN n).putCells 3 [.str x] = encN { n with s := x }) ∧
    (∀ x, (encN n).putCells 4 [.bool x] = encN { n with neg := x }) ∧ (∀ x, (encN n).putCells 5 [.int .i64 x] = encN { n with e := x }) :=
  ⟨fun _ => rfl, fun _ => rfl, fun _ => rfl, fun _ => rfl, fun _ => rfl, fun _ => rfl⟩
theorem nodeF (k m : Int) (x y : List UInt8) (g : Bool) (e : Int) : PV.agg [.int .i64 k, .int .i64 m, .str x, .str y, .bool g, .int .i64 e] = encN ⟨k, m, x, y, g, e⟩ := rfl
theorem nodeB (objs : List Obj) (K : KT) :
    (∀ k, q1p D t_api_Node [(0, .int .i64 k)] objs K = K (encN ⟨k, 0, [], [], false, 0⟩) objs 0) ∧
    (∀ k m, q1p D t_api_Node [(0, .int .i64 k), (1, .int .i64 m)] objs K = K (encN ⟨k, m, [], [], false, 0⟩) objs 0) ∧
    (∀ k s, q1p D t_api_Node [(0, .int .i64 k), (3, .str s)] objs K = K (encN ⟨k, 0, [], s, false, 0⟩) objs 0) ∧
    (∀ k s g e, q1p D t_api_Node [(0, .int .i64 k), (3, .str s), (4, .bool g), (5, .int .i64 e)] objs K = K (encN ⟨k, 0, [], s, g, e⟩) objs 0) := by
  have z : q05 (D t_api_Node) = encN ⟨0, 0, [], [], false, 0⟩ := by kernel_rfl
  have a : (D t_api_Node).agg = true := by kernel_rfl
  simp only [D_all] at z a
  refine ⟨fun k => ?_, fun k m => ?_, fun k s => ?_, fun k s g e => ?_⟩
  all_goals
    simp [q1p, q9b, a, z, D_all, fillR, encN, PV.isAgg, partOk, PV.cells, PV.storable, PV.solid, PV.pure]
theorem foldS :
    (∀ n0, PV.sl 6 [encN n0] none = encV [n0]) ∧
    (∀ n0 n1, PV.sl 6 [encN n0, encN n1] none = encV [n0, n1]) ∧
    (∀ n0 n1 n2, PV.sl 6 [encN n0, encN n1, encN n2] none = encV [n0, n1, n2]) ∧
    (∀ s0, PV.sl 1 [PV.str s0] none = encT [s0]) ∧
    (∀ s0 s1, PV.sl 1 [PV.str s0, PV.str s1] none = encT [s0, s1]) ∧
    (∀ s0 s1 s2, PV.sl 1 [PV.str s0, PV.str s1, PV.str s2] none = encT [s0, s1, s2]) ∧
    (∀ i0, PV.sl 1 [PV.int .i64 i0] none = encI [i0]) ∧
    (∀ i0 i1, PV.sl 1 [PV.int .i64 i0, PV.int .i64 i1] none = encI [i0, i1]) ∧
    (∀ i0 i1 i2, PV.sl 1 [PV.int .i64 i0, PV.int .i64 i1, PV.int .i64 i2] none = encI [i0, i1, i2]) ∧
    (∀ v0, PV.sl 1 [encV v0] none = encL [v0]) ∧
    (∀ v0 v1, PV.sl 1 [encV v0, encV v1] none = encL [v0, v1]) ∧
    (∀ v0 v1 v2, PV.sl 1 [encV v0, encV v1, encV v2] none = encL [v0, v1, v2]) ∧
    (∀ g0, PV.sl 1 [encI g0] none = encG [g0]) ∧
    (∀ g0 g1, PV.sl 1 [encI g0, encI g1] none = encG [g0, g1]) ∧
    (∀ g0 g1 g2, PV.sl 1 [encI g0, encI g1, encI g2] none = encG [g0, g1, g2]) :=
  ⟨fun _ => rfl, fun _ _ => rfl, fun _ _ _ => rfl, fun _ => rfl, fun _ _ => rfl, fun _ _ _ => rfl, fun _ => rfl, fun _ _ => rfl, fun _ _ _ => rfl, fun _ => rfl, fun _ _ => rfl, fun _ _ _ => rfl, fun _ => rfl, fun _ _ => rfl, fun _ _ _ => rfl⟩
theorem inN : Inert encN := by intro d n o x; cases d <;> rfl
theorem inV : Inert encV := by intro d n o x; cases d <;> rfl
theorem inS : Inert PV.str := by intro d n o x; cases d <;> rfl
theorem inI : Inert (PV.int .i64) := by intro d n o x; cases d <;> rfl
theorem inG : Inert encI := by intro d n o x; cases d <;> rfl
theorem preU :
    type_of% (rowS hV) ∧
    type_of% (rowS hT) ∧
    type_of% (rowS hL) ∧
    type_of% (rowS hI) ∧
    type_of% (rowS hG) ∧
    type_of% (q0p q70) ∧
    type_of% (q0p q4g) ∧
    type_of% (q0p q71) ∧
    type_of% (q0p q8w) ∧
    type_of% (q0p q72) ∧
    type_of% (q0p q8x) :=
  ⟨rowS hV, rowS hT, rowS hL, rowS hI, rowS hG, q0p q70, q0p q4g, q0p q71, q0p q8w, q0p q72, q0p q8x⟩
theorem postU :
    type_of% (nodeR) ∧
    type_of% (nodeC) ∧
    type_of% (nodeEq) ∧
    type_of% (nodeP) ∧
    type_of% (nodeF) ∧
    type_of% (nodeB) ∧
    type_of% (foldS) ∧
    type_of% (rowR hV) ∧
    type_of% (rowR hT) ∧
    type_of% (rowR hL) ∧
    type_of% (rowR hI) ∧
    type_of% (rowR hG) ∧
    type_of% (rowS hV) ∧
    type_of% (rowS hT) ∧
    type_of% (rowS hL) ∧
    type_of% (rowS hI) ∧
    type_of% (rowS hG) ∧
    type_of% (rowC hV) ∧
    type_of% (rowC hT) ∧
    type_of% (rowC hL) ∧
    type_of% (rowC hI) ∧
    type_of% (rowC hG) ∧
    type_of% (q0p q70) ∧
    type_of% (q0p q4g) ∧
    type_of% (q0p q71) ∧
    type_of% (q0p q8w) ∧
    type_of% (q0p q72) ∧
    type_of% (q0p q8x) ∧
    type_of% (q4s hV inN) ∧
    type_of% (q4s hT inS) ∧
    type_of% (q4s hL inV) ∧
    type_of% (q4s hI inI) ∧
    type_of% (q4s hG inG) ∧
    type_of% (rowA (enc := encN) (sz := 6) (fun _ => rfl) (fun _ => rfl)) ∧
    type_of% (rowA (enc := encV) (sz := 1) (fun _ => rfl) (fun _ => rfl)) ∧
    type_of% (rowA (enc := PV.str) (sz := 1) (fun _ => rfl) (fun _ => rfl)) ∧
    type_of% (rowA (enc := (PV.int .i64)) (sz := 1) (fun _ => rfl) (fun _ => rfl)) ∧
    type_of% (rowA (enc := encI) (sz := 1) (fun _ => rfl) (fun _ => rfl)) ∧
    type_of% (rowA (enc := PV.bool) (sz := 1) (fun _ => rfl) (fun _ => rfl)) ∧
    type_of% (fun (l : Vl) (k : Nat) => neO (encV l) rfl k) ∧
    type_of% (fun (l : List (List UInt8)) (k : Nat) => neO (encT l) rfl k) ∧
    type_of% (fun (l : List Vl) (k : Nat) => neO (encL l) rfl k) ∧
    type_of% (fun (l : List Int) (k : Nat) => neO (encI l) rfl k) ∧
    type_of% (fun (l : List (List Int)) (k : Nat) => neO (encG l) rfl k) ∧
    type_of% (fun (z : Nat) (xs : List PV) (q : Option Bool) (k : Nat) => neO (.sl z xs q) rfl k) :=
  ⟨nodeR, nodeC, nodeEq, nodeP, nodeF, nodeB, foldS, rowR hV, rowR hT, rowR hL, rowR hI, rowR hG, rowS hV, rowS hT, rowS hL, rowS hI, rowS hG, rowC hV, rowC hT, rowC hL, rowC hI, rowC hG, q0p q70, q0p q4g, q0p q71, q0p q8w, q0p q72, q0p q8x, q4s hV inN, q4s hT inS, q4s hL inV, q4s hI inI, q4s hG inG, rowA (enc := encN) (sz := 6) (fun _ => rfl) (fun _ => rfl), rowA (enc := encV) (sz := 1) (fun _ => rfl) (fun _ => rfl), rowA (enc := PV.str) (sz := 1) (fun _ => rfl) (fun _ => rfl), rowA (enc := (PV.int .i64)) (sz := 1) (fun _ => rfl) (fun _ => rfl), rowA (enc := encI) (sz := 1) (fun _ => rfl) (fun _ => rfl), rowA (enc := PV.bool) (sz := 1) (fun _ => rfl) (fun _ => rfl), fun (l : Vl) (k : Nat) => neO (encV l) rfl k, fun (l : List (List UInt8)) (k : Nat) => neO (encT l) rfl k, fun (l : List Vl) (k : Nat) => neO (encL l) rfl k, fun (l : List Int) (k : Nat) => neO (encI l) rfl k, fun (l : List (List Int)) (k : Nat) => neO (encG l) rfl k, fun (z : Nat) (xs : List PV) (q : Option Bool) (k : Nat) => neO (.sl z xs q) rfl k⟩
end Lp

/-! LpW1 -/

namespace Lp
open Go Go.Proofs
set_option maxHeartbeats 1000000
set_option linter.unusedSimpArgs false
theorem behind_spec (v : Vl) (i c : Nat) (hv : v.length ≤ 4611686018427387904) (h : skip (v.drop i) 1 = some c) : FnSpec Tryz.prog f_val_behind [encV v, .int .i64 i] [] (.int .i64 (i + c : Nat)) [] := by
  refine k_val_behind.pure (T := tabL Tryz.prog []) 0 hD (q0g q0d) hmix (by decide) ?_
  simp only [q8i, ↓wpR, knR, ↓lrR, ↓exR, ↓guR, stR, ↓opsR, retR, outL, onePV, frR, Nat.reduceAdd, Nat.reduceSub, tmR, D_all, biR, biI, inRR]
  refine q0t (fun m S => ∃ (j k c' : Nat), m = c' ∧ skip (v.drop j) k = some c' ∧ j + c' = i + c ∧ S = ⟨mkT 19 [(0, encV v), (1, .int .i64 j), (5, .int .i64 k)], []⟩) c ⟨i, 1, c, rfl, h, rfl, ?_⟩ ?_
  · simp only [fgR, encV, tmR]; rfl
  rintro m S ⟨j, k, c', rfl, hs, hj, rfl⟩
  simp only [↓wpR, knR, ↓lrR, ↓exR, ↓guR, stR, ↓opsR, retR, outL, onePV, frR, Nat.reduceAdd, Nat.reduceSub, tmR, fgR, D_all, encV, encN, biR, biI, inRR, q0j, loadR, q0i, q01, ↓exmap, ↓exi, agR, subR, isR, alR, Bool.not_false, Bool.and_self, Nat.reduceLeDiff, forall_const, ne_eq, reduceCtorEq, not_false_eq_true, true_and, PV.bool.injEq, Int.toNat_natCast, Nat.zero_add, decide_eq_true_eq, List.length_cons, List.length_nil]
  refine ⟨fun hk => ?_, fun hk => ?_⟩
  · obtain ⟨k, rfl⟩ : ∃ k', k = k' + 1 := ⟨k - 1, by omega⟩
    have hjl : j < v.length := by
      rcases Nat.lt_or_ge j v.length with h' | h'
      · exact h'
      · rw [List.drop_eq_nil_of_le h'] at hs; simp [skip] at hs
    rw [List.drop_eq_getElem_cons hjl] at hs
    obtain ⟨hm, c'', rfl, hs'⟩ := q26 hs
    have hle := q4b _ _ _ hs'
    simp only [List.length_drop] at hle
    have hk2 : ((k + 1 : Nat) : Int) + (v[j].many - 1) = ((k + v[j].many.toNat : Nat) : Int) := by omega
    exact ⟨by omega, v[j], List.getElem?_eq_getElem hjl, by omega, by omega, by omega, c'', by omega, j + 1, k + v[j].many.toNat, c'', rfl, hs', by omega, by rw [hk2]; rfl⟩
  · rw [if_pos trivial]
    have hk0 : k = 0 := by have := of_decide_eq_false hk; omega
    subst hk0
    have : m = 0 := by cases hd : v.drop j <;> rw [hd] at hs <;> simp [skip] at hs <;> exact hs.symm
    subst this
    congr 1; omega
def objV (v : Vl) : Obj := ⟨t_api_Node, 6, v.map encN, true, 0⟩
theorem q6g (v : Vl) : NoRefs [objV v] := by
  intro o ho x hx p hp
  simp only [List.mem_singleton] at ho
  subst ho
  simp only [objV, List.mem_map] at hx
  obtain ⟨n, _, rfl⟩ := hx
  simp only [encN, PV.cells, List.mem_cons, List.not_mem_nil, or_false] at hp
  rcases hp with rfl | rfl | rfl | rfl | rfl | rfl <;> rfl
theorem encN_cells (n : Nd) : (encN n).cells.length = 6 ∧ (encN n).cells.all PV.storable = true := ⟨rfl, rfl⟩
theorem map_frzN (d n : Nat) (objs : List Obj) (v : Vl) : (v.map encN).map (PV.mapCells (frz d n objs)) = v.map encN := by
  rw [List.map_map]
  exact List.map_congr_left fun x _ => rfl
theorem clone_nil : FnSpec Tryz.prog f_slices_Clone_api_Val_api_Node_ [.sl 6 [] (some true)] [] (.osl 0 0) [objV []] := by
  refine k_slices_Clone_api_Val_api_Node_.made (T := tabL Tryz.prog []) 0 hD (q0g q0d) hmix ?_
  simp only [q0v, ↓wpR, knR, ↓lrR, ↓exR, ↓guR, stR, ↓opsR, retMR, frR, Nat.reduceAdd, Nat.reduceSub, tmR, fgR, D_all, biR, biI, inRR, q1t, forall_const, reduceCtorEq, false_imp_iff, and_true, TK.slice.injEq, exists_eq', true_and]
  exact ⟨_, 0, 0, _, Weak.adopt 2 t_api_Node 6 rfl, rfl, rfl, rfl, rfl, rfl, q6g []⟩
theorem clone_some (v : Vl) (hv : v.length ≤ 1099511627776) : FnSpec Tryz.prog f_slices_Clone_api_Val_api_Node_ [.sl 6 (v.map encN) (some false)] [] (.osl 0 0) [objV v] := by
  refine k_slices_Clone_api_Val_api_Node_.made (T := tabL Tryz.prog []) 0 hD (q0g q0d) hmix ?_
  simp only [q0v, ↓wpR, knR, ↓lrR, ↓exR, ↓guR, stR, ↓opsR, retMR, frR, Nat.reduceAdd, Nat.reduceSub, tmR, fgR, D_all, biR, biI, inRR, q1t, forall_const, reduceCtorEq, false_imp_iff, and_true, TK.slice.injEq, exists_eq', true_and]
  simp only [q00, q07, srcR, newObj, q09, D_all, ne_eq, reduceCtorEq, not_false_eq_true, true_and, if_true, List.all_nil, Nat.zero_mul, Nat.zero_le, List.nil_append, List.length_nil, List.getElem?_cons_zero, Option.some.injEq]
  refine ⟨rfl, rfl, rfl, rfl, ?_, _, rfl, rfl, rfl, rfl, rfl, ?_, ?_, fun _ _ h => h.elim, _, 0, 2, _, Weak.refl _ _, rfl, rfl, rfl, rfl, ?_, q6g v⟩
  · intro y hy
    obtain ⟨n, _, rfl⟩ := List.mem_map.1 hy
    exact encN_cells n
  · simp; omega
  · simp; omega
  · simp only [frzO, objV, List.replicate_zero, List.nil_append, map_frzN]
theorem clone_spec (v : Vl) (hv : v.length ≤ 1099511627776) : FnSpec Tryz.prog f_slices_Clone_api_Val_api_Node_ [encV v] [] (.osl 0 0) [objV v] :=
  FnSpec.split (pre := []) (post := []) (fun h => by
    have : v = [] := by simpa using h
    subst this
    exact clone_nil) (clone_some v hv)
end Lp

/-! LpW2 -/

namespace Lp
open Go Go.Proofs
set_option maxHeartbeats 2000000
set_option linter.unusedSimpArgs false
def rowOf (p : Vl) : List PV := [.str (nameOf p), encV (clr p)]
def q9z : Ctr := fun args objs K => ∃ (v : Vl) (i c : Nat), args = [encV v, .int .i64 i] ∧ v.length ≤ 4611686018427387904 ∧ skip (v.drop i) 1 = some c ∧ K (.int .i64 (i + c : Nat)) objs 0
def ctrClone : Ctr := fun args objs K => ∃ v : Vl, args = [encV v] ∧ v.length ≤ 1099511627776 ∧ K (.osl objs.length 0) (objs ++ [objV v]) 2
theorem ctrBehind_ok : CtrOk Tryz.prog f_val_behind q9z := by
  rintro args objs K ⟨v, i, c, rfl, hv, hs, hk⟩
  exact ⟨_, _, _, .pure _ rfl (behind_spec v i c hv hs), hk⟩
theorem ctrClone_ok : CtrOk Tryz.prog f_slices_Clone_api_Val_api_Node_ ctrClone := by
  rintro args objs K ⟨v, rfl, hv, hk⟩
  have h := CallR.made (objs := objs) _ _ rfl (q6g v) (clone_spec v hv)
  exact ⟨_, _, _, h, by simpa [PV.shift, PV.shiftS] using hk⟩
theorem each_spec (v : Vl) : FnSpec Tryz.prog f_val_each [encV v] [] (.fn f_val_each_1 [] [.addr (encV v)]) [] := by
  refine k_val_each.pure (T := tabL Tryz.prog []) 1 hD (q0g q0d) hmix (by decide) ?_
  simp only [c_val_each, ↓wpR, knR, ↓lrR, ↓exR, ↓guR, stR, ↓opsR, retR, outL, onePV, Nat.reduceAdd, Nat.reduceSub, tmR, D_all, boxR, q04, newObj, encV, isR, alR, ne_eq, reduceCtorEq, not_false_eq_true, true_and, List.length_cons, List.length_nil, List.nil_append]
  exact ⟨rfl, rfl, rfl⟩
theorem q6h (v : Vl) (n : Nd) (r : Vl) (ps : List Vl) (hv : v = n :: r) (hl : v.length ≤ 1099511627776) (hm : 0 ≤ n.many) (hp : parts n.many.toNat r = some ps) :
    Gives Tryz.prog f_val_each_1 [.addr (encV v)] (ps.map rowOf) := by
  refine k_val_each_1.gives (fnT := tabF [(f_val_behind, q9z), (f_slices_Clone_api_Val_api_Node_, ctrClone)]) hD (q0c ctrBehind_ok (q0c ctrClone_ok q0d)) hmix ?_
  intro I J objs y hI hIl hJl
  subst hv
  simp only [q8h, ↓wpR, kiR, ↓lrR, ↓exR, ↓guR, stR, ↓opsR, Nat.reduceAdd, Nat.reduceSub, tmR, D_all, biR, biI, inRR, q0j, loadR, q0i, q01, ↓exmap, ↓exi, agR, subR, isR, alR, encV, encN, List.map_cons, Int.reduceToNat, Int.toNat_zero, Int.reduceLE, Bool.not_false, Bool.and_self, Nat.reduceLeDiff, forall_const, ne_eq, reduceCtorEq, not_false_eq_true, true_and, PV.bool.injEq, Int.toNat_natCast, Nat.zero_add, List.length_cons, List.length_nil]
  refine q0t (fun m S => ∃ (k i : Nat) (O : List Obj) (rest : List Vl), k + rest.length = ps.length ∧ m = rest.length ∧ parts rest.length ((n :: r).drop i) = some rest ∧ ps.drop k = rest ∧ I k O ∧
    S = ⟨mkT 34 [(0, .yld y), (1, .addr (encV (n :: r))), (3, .int .i64 i), (9, .int .i64 n.many), (10, .int .i64 k)], O⟩) ps.length ?_ ?_
  · have hpl := q1u _ _ _ hp
    refine ⟨0, 1, objs, ps, by omega, rfl, by rw [hpl]; simpa using hp, by simp, hI, ?_⟩
    simp only [fgR, encV, tmR]; rfl
  have hpl := q1u _ _ _ hp
  have hple : n.many.toNat ≤ 1099511627776 := by have := q3d _ _ _ hp; simp at hl; omega
  generalize hv : n :: r = v at *
  rintro m S ⟨k, i, O, rest, hk, rfl, hps, hd, hIk, rfl⟩
  simp only [↓wpR, kiR, ↓lrR, ↓exR, ↓guR, stR, ↓opsR, Nat.reduceAdd, Nat.reduceSub, tmR, D_all, F_all, biR, biI, inRR, caR, taR, q9z, ctrClone, Nat.reduceBEq, BEq.rfl, cond_true, cond_false, q1x, q03, q0j, loadR, q0i, q01, ↓exmap, ↓exi, agR, subR, isR, alR, encV, List.map_cons, Int.reduceToNat, Int.toNat_zero, Int.reduceLE, Bool.not_false, Bool.and_self, Nat.reduceLeDiff, forall_const, ne_eq, reduceCtorEq, not_false_eq_true, true_and, PV.bool.injEq, Int.toNat_natCast, Nat.zero_add, List.length_cons, List.length_nil]
  refine ⟨fun hkm => ?_, fun hkm => ?_⟩
  · have hkm' : (k : Int) < n.many := of_decide_eq_true hkm
    obtain ⟨q, hq⟩ : ∃ q, rest.length = q + 1 := ⟨rest.length - 1, by omega⟩
    rw [hq] at hps
    obtain ⟨c, qs, hsk, hr', hqs⟩ := q3z hps
    have hc := q4b _ _ _ hsk
    simp only [List.length_drop] at hc
    have hlv : v.length ≤ 1099511627776 := hl
    refine ⟨v, i, c, rfl, by omega, hsk, .inr trivial, by omega, by omega, by simp; omega, (v.drop i).take c, ?_, by simp; omega, objV ((v.drop i).take c), by simp, rfl, rfl, by simp [objV]; omega, rfl, objV ((v.drop i).take c), by simp, rfl, rfl, ?_⟩
    · rw [← List.map_take, ← List.map_drop, ← List.take_drop]
    · obtain ⟨hdn, tl, hpe⟩ : ∃ a b, (v.drop i).take c = a :: b := by
        cases hx : (v.drop i).take c with
        | nil => have := congrArg List.length hx; simp at this; omega
        | cons a b => exact ⟨a, b, rfl⟩
      rw [hpe] at hr' ⊢
      refine ⟨objV (hdn :: tl), encN hdn, by simp, rfl, rfl, rfl, by simp, rfl, by simp [encN, PV.cells], (fun h => by cases h), rfl, ?_⟩
      have hset : (O ++ [objV (hdn :: tl)]).set O.length { objV (hdn :: tl) with xs := (objV (hdn :: tl)).xs.set 0 ((encN hdn).putCells 2 (PV.str []).cells) } = O ++ [objV (clr (hdn :: tl))] := by
        rw [List.set_append_right _ _ (Nat.le_refl _), Nat.sub_self]
        rfl
      rw [hset]
      refine q4a _ (Weak.freeze 1 O.length (hIl k O hIk).1 _) ?_
      have hgo : (O ++ [objV (clr (hdn :: tl))])[O.length]? = some (objV (clr (hdn :: tl))) := by simp
      have hfr : frz 1 O.length (O ++ [objV (clr (hdn :: tl))]) (.osl O.length 0) = encV (clr (hdn :: tl)) := by
        simp only [frz, Nat.lt_irrefl, if_false, frzI, hgo]
        simp only [objV, Nat.le_refl, decide_true, Bool.and_self, BEq.rfl, if_true, encV, List.map_map]
        congr 1
      have hro : (O ++ [objV (clr (hdn :: tl))]).take O.length = O := by simp
      have hpost : ∃ w, w = clr (hdn :: tl) := ⟨_, rfl⟩
      obtain ⟨pc, hpc⟩ := hpost
      rw [← hpc] at hfr hro hgo ⊢
      have hq1 : (frz 1 O.length (O ++ [objV pc]) (.optr O.length 0 0 0)).pure = true := q6x (Nat.le_refl _)
      have hq2 : (frz 1 O.length (O ++ [objV pc]) (.optr O.length 0 0 2)).pure = true := q6x (Nat.le_refl _)
      have hq3 : (encV pc).pure = true := rfl
      simp only [St.freeze, tmR, fzR, frR, hfr, hro, hq1, hq2, hq3, puR, unR, Bool.not_true, encN, frzO_id (hIl k O hIk).2, ↓wpR, kiR, ↓lrR, ↓exR, ↓guR, stR, ↓opsR, Nat.reduceAdd, Nat.reduceSub, D_all, biR, biI, inRR, caR, Yof, q0j, loadR, q0i, q01, ↓exmap, ↓exi, agR, subR, isR, alR, Int.reduceToNat, Int.toNat_zero, Int.reduceLE, Bool.not_false, Bool.and_self, Nat.reduceLeDiff, forall_const, ne_eq, reduceCtorEq, not_false_eq_true, true_and, PV.bool.injEq, Int.toNat_natCast, Nat.zero_add, List.length_cons, List.length_nil]
      have hvi : v[i]? = some hdn := by
        have := congrArg (fun l => l[0]?) hpe
        simp only [List.getElem?_cons_zero, List.getElem?_take, List.getElem?_drop, Nat.add_zero] at this
        rw [if_pos (by omega)] at this
        exact this
      have hpk : ps[k]? = some (hdn :: tl) := by
        have := congrArg (fun l => l[0]?) (hd.trans hr')
        simpa using this
      have hdq : ps.drop (k + 1) = qs := by
        have := congrArg List.tail (hd.trans hr')
        simpa [List.tail_drop] using this
      have hlq : qs.length = q := by rw [hr'] at hq; simpa using hq
      refine ⟨by omega, hdn, hvi, k, hIk, ?_, fun objs' hI' => ⟨fun h => h.elim, ⟨by omega, by omega⟩, qs.length, by omega, k + 1, i + c, objs', qs, by omega, rfl, ?_, hdq, hI', ?_⟩, fun objs' hJ' => ?_⟩
      · rw [List.getElem?_map, hpk, hpc]; rfl
      · rw [hlq]; rw [List.drop_drop] at hqs; exact hqs
      · simp only [fgR, encV, tmR]; rfl
      · exact ⟨⟨.inr rfl, .inr ⟨k, by rw [List.length_map]; omega, hJ'⟩⟩, fun h => h.elim⟩
  · rw [if_pos trivial]
    have hge : ¬ (k : Int) < n.many := of_decide_eq_false hkm
    refine ⟨.inl rfl, ?_⟩
    have : k = ps.length := by omega
    rw [List.length_map, ← this]
    exact .inl hIk
end Lp

/-! LpW3 -/

namespace Lp
open Go Go.Proofs
set_option maxHeartbeats 2000000
set_option linter.unusedSimpArgs false
def qa0 : Ctr := fun args objs K => ∃ v : Vl, args = [encV v] ∧ K (.fn f_val_each_1 [] [.addr (encV v)]) objs 0
theorem ctrEach_ok : CtrOk Tryz.prog f_val_each qa0 := by
  rintro args objs K ⟨v, rfl, hk⟩
  exact ⟨_, _, _, .pure _ rfl (each_spec v), hk⟩
def partsObjs (done : List Vl) (O : List Obj) : Prop :=
  (done = [] ∧ O = [⟨t_L_api_Val, 1, [.sl 0 [] (some true)], true, 1⟩]) ∨
  (done ≠ [] ∧ ∃ ver, O = [⟨t_L_api_Val, 1, [.osl 1 ver], true, 1⟩, ⟨t_api_Val, 1, done.map fun p => encV (clr p), true, ver⟩])
theorem parts_spec0 (v : Vl) (n : Nd) (r : Vl) (ps : List Vl) (hv : v = n :: r) (hl : v.length ≤ 1099511627776) (hm : 0 ≤ n.many) (hp : parts n.many.toNat r = some ps) :
    FnSpec Tryz.prog f_val_Parts [encV v] [] (if ps = [] then .sl 0 [] (some true) else .sl 1 (ps.map fun p => encV (clr p)) none) [] := by
  refine k_val_Parts.pure (T := tabL Tryz.prog [(f_val_each, qa0)]) 2 hD (q0g (q0c ctrEach_ok q0d)) hmix (by decide) ?_
  simp only [q6f, ↓wpR, knR, ↓lrR, ↓exR, ↓guR, stR, ↓opsR, Nat.reduceAdd, Nat.reduceSub, tmR, D_all, F_all, caR, taR, qa0, Nat.reduceBEq, BEq.rfl, cond_true, cond_false, q0b, newObj, q05, isR, alR, ne_eq, reduceCtorEq, not_false_eq_true, true_and, List.length_cons, List.length_nil, List.nil_append]
  refine ⟨rfl, v, rfl, ?_⟩
  refine q8f f_val_each_1 [.addr (encV v)] (ps.map rowOf) (fun i O => partsObjs (ps.take i) O ∧ i ≤ ps.length) rfl rfl rfl trivial (q6h v n r ps hv hl hm hp) ?_ ⟨.inl ⟨by simp, rfl⟩, Nat.zero_le _⟩ ?_ ?_ ?_
  · intro y hy
    obtain ⟨p, _, rfl⟩ := List.mem_map.1 hy
    rfl
  · rintro i O ⟨h | ⟨_, ver, rfl⟩, _⟩
    · rw [h.2]
      refine ⟨by simp, ?_⟩
      intro o ho x hx c hc
      simp only [List.mem_singleton] at ho
      subst ho
      simp only [List.mem_singleton] at hx
      subst hx
      simp only [PV.cells, List.mem_singleton] at hc
      subst hc
      rfl
    · refine ⟨by simp, ?_⟩
      intro o ho x hx c hc
      simp only [List.mem_cons, List.not_mem_nil, or_false] at ho
      rcases ho with rfl | rfl
      · simp only [List.mem_singleton] at hx
        subst hx
        simp only [PV.cells, List.mem_singleton] at hc
        subst hc
        rfl
      · simp only [List.mem_map] at hx
        obtain ⟨p, _, rfl⟩ := hx
        simp only [encV, PV.cells, List.mem_singleton] at hc
        subst hc
        rfl
  · rintro i args O ⟨hO, hi⟩ ha
    rw [List.getElem?_map] at ha
    obtain ⟨p, hpi, rfl⟩ : ∃ p, ps[i]? = some p ∧ rowOf p = args := by
      cases hx : ps[i]? with
      | none => rw [hx] at ha; simp at ha
      | some p => rw [hx] at ha; exact ⟨p, rfl, by simpa using ha⟩
    have hil : i < ps.length := (List.getElem?_eq_some_iff.1 hpi).1
    have htk : ps.take (i + 1) = ps.take i ++ [p] := by rw [List.take_add_one, hpi]; rfl
    rcases hO with ⟨h0, rfl⟩ | ⟨h0, ver, rfl⟩
    · simp only [rowOf, setL, obR, ↓exi, ↓exi2, reduceIte, Bool.false_eq_true, if_false, ↓wpR, ↓lrR, ↓exR, ↓guR, stR, ↓opsR, Nat.reduceAdd, Nat.reduceSub, tmR, D_all, q1t, loadR, q00, q07, srcR, newObj, q09, q0a, q05, agR, subR, isR, alR, ne_eq, reduceCtorEq, not_false_eq_true, true_and, List.length_cons, List.length_nil, List.nil_append]
      refine ⟨by decide, fun _ => trivial, rfl, by decide, rfl, rfl, rfl, ?_, by decide, by decide, by decide, fun _ => trivial, rfl, .inr ⟨by rw [htk]; simp, 1, ?_⟩, by omega⟩
      · intro y hy
        simp only [List.mem_singleton] at hy
        subst hy
        exact ⟨rfl, rfl⟩
      · rw [htk, h0]; rfl
    · have hlen : ps.length ≤ 1099511627776 := by
        have h1 := q1u _ _ _ hp
        have h2 := q3d _ _ _ hp
        rw [hv] at hl
        simp at hl
        omega
      simp only [rowOf, setL, obR, ↓exi, ↓exi2, reduceIte, Bool.false_eq_true, if_false, ↓wpR, ↓lrR, ↓exR, ↓guR, stR, ↓opsR, Nat.reduceAdd, Nat.reduceSub, tmR, D_all, q1t, loadR, q00, q07, srcR, newObj, q09, q0a, q05, agR, subR, isR, alR, ne_eq, reduceCtorEq, not_false_eq_true, true_and, List.length_cons, List.length_nil, List.nil_append]
      refine ⟨by decide, fun _ => trivial, rfl, by decide, rfl, rfl, rfl, ?_, by simp; omega, by simp; omega, fun _ _ h => h.elim, by decide, fun _ => trivial, rfl, .inr ⟨by rw [htk]; simp, ver + 1, ?_⟩, by omega⟩
      · intro y hy
        simp only [List.mem_singleton] at hy
        subst hy
        exact ⟨rfl, rfl⟩
      · rw [htk, List.map_append]; rfl
  · rintro O ⟨hO, _⟩
    rw [List.length_map, List.take_length] at hO
    rcases hO with ⟨h0, rfl⟩ | ⟨h0, ver, rfl⟩
    · rw [if_pos h0]
      simp only [obR, ↓exi, ↓exi2, reduceIte, ↓exR, stR, tmR, loadR, agR, subR, isR, alR, retR, outL, onePV, frR, fzR, ne_eq, reduceCtorEq, not_false_eq_true, true_and, List.length_cons, List.length_nil, List.nil_append]
      exact ⟨by decide, fun _ => trivial, rfl, trivial⟩
    · rw [if_neg h0]
      simp only [obR, ↓exi, ↓exi2, reduceIte, ↓exR, stR, tmR, loadR, agR, subR, isR, alR, retR, outL, onePV, frR, fzR, ne_eq, reduceCtorEq, not_false_eq_true, true_and, List.length_cons, List.length_nil, List.nil_append]
      refine ⟨by decide, fun _ => trivial, rfl, ?_⟩
      simp only [frz, Nat.not_lt_zero, if_false, frzI, List.getElem?_cons_succ, List.getElem?_cons_zero, Nat.le_refl, Nat.zero_le, decide_true, Bool.and_self, BEq.rfl, if_true, List.map_map]
      congr 1
end Lp

/-! LpW4 -/

namespace Lp
open Go Go.Proofs
set_option maxHeartbeats 2000000
set_option linter.unusedSimpArgs false
def namesObjs (done : List Vl) (O : List Obj) : Prop :=
  (done = [] ∧ O = [⟨t_L_string, 1, [.sl 0 [] (some true)], true, 1⟩]) ∨
  (done ≠ [] ∧ ∃ ver, O = [⟨t_L_string, 1, [.osl 1 ver], true, 1⟩, ⟨t_string, 1, done.map fun p => .str (nameOf p), true, ver⟩])
theorem qa1 (v : Vl) (n : Nd) (r : Vl) (ps : List Vl) (hv : v = n :: r) (hl : v.length ≤ 1099511627776) (hm : 0 ≤ n.many) (hp : parts n.many.toNat r = some ps) :
    FnSpec Tryz.prog f_val_Names [encV v] [] (if n.kind = 6 ∧ ps ≠ [] then .sl 1 (ps.map fun p => .str (nameOf p)) none else .sl 0 [] (some true)) [] := by
  subst hv
  refine k_val_Names.pure (T := tabL Tryz.prog [(f_val_each, qa0)]) 2 hD (q0g (q0c ctrEach_ok q0d)) hmix (by decide) ?_
  simp only [q6e, ↓wpR, knR, ↓lrR, ↓exR, ↓guR, stR, ↓opsR, Nat.reduceAdd, Nat.reduceSub, tmR, D_all, F_all, caR, taR, qa0, Nat.reduceBEq, BEq.rfl, cond_true, cond_false, q0b, newObj, q05, ↓exmap, ↓exi, q0j, loadR, q0i, q01, encV, encN, biR, biI, agR, subR, List.map_cons, Int.reduceToNat, Int.toNat_zero, Int.reduceLE, Nat.reduceLeDiff, forall_const, Bool.not_false, Bool.and_self, ↓exi2, obR, retR, outL, onePV, frR, isR, alR, ne_eq, reduceCtorEq, not_false_eq_true, true_and, List.length_cons, List.length_nil, List.nil_append]
  refine ⟨rfl, fun hk => ⟨n :: r, rfl, ?_⟩, fun hk => ?_⟩
  · have hk6 : n.kind = 6 := of_decide_eq_true hk
    refine q8f f_val_each_1 [.addr (encV (n :: r))] (ps.map rowOf) (fun i O => namesObjs (ps.take i) O ∧ i ≤ ps.length) rfl rfl rfl trivial (q6h (n :: r) n r ps rfl hl hm hp) ?_ ⟨.inl ⟨by simp, rfl⟩, Nat.zero_le _⟩ ?_ ?_ ?_
    · intro y hy
      obtain ⟨p, _, rfl⟩ := List.mem_map.1 hy
      rfl
    · rintro i O ⟨h | ⟨_, ver, rfl⟩, _⟩
      · rw [h.2]
        refine ⟨by simp, ?_⟩
        intro o ho x hx c hc
        simp only [List.mem_singleton] at ho
        subst ho
        simp only [List.mem_singleton] at hx
        subst hx
        simp only [PV.cells, List.mem_singleton] at hc
        subst hc
        rfl
      · refine ⟨by simp, ?_⟩
        intro o ho x hx c hc
        simp only [List.mem_cons, List.not_mem_nil, or_false] at ho
        rcases ho with rfl | rfl
        · simp only [List.mem_singleton] at hx
          subst hx
          simp only [PV.cells, List.mem_singleton] at hc
          subst hc
          rfl
        · simp only [List.mem_map] at hx
          obtain ⟨p, _, rfl⟩ := hx
          simp only [PV.cells, List.mem_singleton] at hc
          subst hc
          rfl
    · rintro i args O ⟨hO, hi⟩ ha
      rw [List.getElem?_map] at ha
      obtain ⟨p, hpi, rfl⟩ : ∃ p, ps[i]? = some p ∧ rowOf p = args := by
        cases hx : ps[i]? with
        | none => rw [hx] at ha; simp at ha
        | some p => rw [hx] at ha; exact ⟨p, rfl, by simpa using ha⟩
      have hil : i < ps.length := (List.getElem?_eq_some_iff.1 hpi).1
      have htk : ps.take (i + 1) = ps.take i ++ [p] := by rw [List.take_add_one, hpi]; rfl
      rcases hO with ⟨h0, rfl⟩ | ⟨h0, ver, rfl⟩
      · simp only [rowOf, setL, obR, ↓exi, ↓exi2, reduceIte, Bool.false_eq_true, if_false, ↓wpR, ↓lrR, ↓exR, ↓guR, stR, ↓opsR, Nat.reduceAdd, Nat.reduceSub, tmR, D_all, q1t, loadR, q00, q07, srcR, newObj, q09, q0a, q05, agR, subR, isR, alR, ne_eq, reduceCtorEq, not_false_eq_true, true_and, List.length_cons, List.length_nil, List.nil_append]
        refine ⟨by decide, fun _ => trivial, rfl, by decide, rfl, rfl, rfl, ?_, by decide, by decide, by decide, fun _ => trivial, rfl, .inr ⟨by rw [htk]; simp, 1, ?_⟩, by omega⟩
        · intro y hy
          simp only [List.mem_singleton] at hy
          subst hy
          exact ⟨rfl, rfl⟩
        · rw [htk, h0]; rfl
      · have hlen : ps.length ≤ 1099511627776 := by
          have h1 := q1u _ _ _ hp
          have h2 := q3d _ _ _ hp
          simp at hl
          omega
        simp only [rowOf, setL, obR, ↓exi, ↓exi2, reduceIte, Bool.false_eq_true, if_false, ↓wpR, ↓lrR, ↓exR, ↓guR, stR, ↓opsR, Nat.reduceAdd, Nat.reduceSub, tmR, D_all, q1t, loadR, q00, q07, srcR, newObj, q09, q0a, q05, agR, subR, isR, alR, ne_eq, reduceCtorEq, not_false_eq_true, true_and, List.length_cons, List.length_nil, List.nil_append]
        refine ⟨by decide, fun _ => trivial, rfl, by decide, rfl, rfl, rfl, ?_, by simp; omega, by simp; omega, fun _ _ h => h.elim, by decide, fun _ => trivial, rfl, .inr ⟨by rw [htk]; simp, ver + 1, ?_⟩, by omega⟩
        · intro y hy
          simp only [List.mem_singleton] at hy
          subst hy
          exact ⟨rfl, rfl⟩
        · rw [htk, List.map_append]; rfl
    · rintro O ⟨hO, _⟩
      rw [List.length_map, List.take_length] at hO
      rcases hO with ⟨h0, rfl⟩ | ⟨h0, ver, rfl⟩
      · rw [if_neg (fun h => h.2 h0)]
        simp only [obR, ↓exi, ↓exi2, reduceIte, ↓exR, stR, tmR, loadR, agR, subR, isR, alR, retR, outL, onePV, frR, fzR, ne_eq, reduceCtorEq, not_false_eq_true, true_and, List.length_cons, List.length_nil, List.nil_append]
        simp
      · rw [if_pos ⟨hk6, h0⟩]
        simp only [obR, ↓exi, ↓exi2, reduceIte, ↓exR, stR, tmR, loadR, agR, subR, isR, alR, retR, outL, onePV, frR, fzR, ne_eq, reduceCtorEq, not_false_eq_true, true_and, List.length_cons, List.length_nil, List.nil_append]
        refine ⟨by decide, rfl, ?_⟩
        simp only [frz, Nat.not_lt_zero, if_false, frzI, List.getElem?_cons_succ, List.getElem?_cons_zero, Nat.le_refl, Nat.zero_le, decide_true, Bool.and_self, BEq.rfl, if_true, List.map_map]
        congr 1
  · have hk6 : n.kind ≠ 6 := of_decide_eq_false hk
    rw [if_neg (fun h => hk6 h.1)]
theorem names_spec (v : Vl) (n : Nd) (r : Vl) (ps : List Vl) (hv : v = n :: r) (hl : v.length ≤ 1099511627776) (hm : 0 ≤ n.many) (hp : parts n.many.toNat r = some ps) :
    FnSpec Tryz.prog f_val_Names [encV v] [] (.sl 1 ((namesOf n ps).map .str) none) [] := by
  refine (qa1 v n r ps hv hl hm hp).le_res fun w ok u h => ?_
  unfold namesOf
  by_cases hk : n.kind = 6
  · rw [if_pos hk]
    by_cases h0 : ps = []
    · subst h0
      rw [if_neg (fun h => h.2 rfl)] at h
      exact rep_nil h (by simp)
    · rw [if_pos ⟨hk, h0⟩] at h
      rw [List.map_map]
      exact h
  · rw [if_neg hk]
    rw [if_neg (fun h => hk h.1)] at h
    exact rep_nil h (by simp)
end Lp

/-! LpW8 -/

namespace Lp
open Go Go.Proofs
theorem frzC0 (x : Nd) : frz 1 0 [⟨t_api_Node, 6, [encN x], true, 1⟩] (.optr 0 1 0 0) = .addr (encN x) := rfl
theorem tf (p : Prop) : p = True ∨ p = False := by
  by_cases h : p
  · exact .inl (eq_true h)
  · exact .inr (eq_false h)
end Lp

/-! LpW14 -/

namespace Lp
open Go Go.Proofs
set_option maxHeartbeats 4000000
set_option maxRecDepth 20000
set_option linter.unusedSimpArgs false
theorem u8c (c : UInt8) (n : Nat) (h : n < 256) : (c < UInt8.ofNat n ↔ c.toNat < n) ∧ (UInt8.ofNat n ≤ c ↔ n ≤ c.toNat) := by
  have e : (UInt8.ofNat n).toNat = n := by simp [UInt8.toNat_ofNat']; omega
  constructor
  · rw [UInt8.lt_iff_toNat_lt, e]
  · rw [UInt8.le_iff_toNat_le, e]
theorem contB_some {s : List UInt8} {i : Nat} {c : UInt8} (h : s[i]? = some c) : contB s i = (decide (128 ≤ c.toNat) && decide (c.toNat < 192)) := by
  have h1 : 128 ≤ c ↔ 128 ≤ c.toNat := (u8c c 128 (by omega)).2
  have h2 : c < 192 ↔ c.toNat < 192 := (u8c c 192 (by omega)).1
  simp only [contB, h]
  rw [decide_eq_decide.2 h1, decide_eq_decide.2 h2]
theorem cont_spec (s : List UInt8) (i : Int) (hi : 0 ≤ i) : FnSpec Tryz.prog f_louperef02_cont [.str s, .int .i64 i] [] (.bool (contB s i.toNat)) [] := by
  refine k_louperef02_cont.pure (T := tabL Tryz.prog []) 0 hD (q0g q0d) hmix (by decide) ?_
  try simp only [F_all]
  rcases Nat.lt_or_ge i.toNat s.length with h | h
  · have hg := List.getElem?_eq_getElem h
    generalize s[i.toNat] = c at hg
    simp (maxSteps := 400000) only [↓preZ, postZ, coreZ, ↓preU, postU, D_all, F_all, unR, outL, onePV, binS, ↓binS, q03, ↓q03, q01, ↓q01, boxR, q0b, newObj, q05, q00, q07, q09, q0a, St.freeze, q02, q08, q04, BEq.rfl, reduceIte, reduceCtorEq, Nat.reduceLT, Nat.reduceAdd, Nat.reduceSub, Nat.reduceMul, Nat.reduceBEq, Nat.reduceLeDiff, Int.reduceToNat, Int.reduceLE, q2a, hg, contB_some hg]
    refine ⟨fun _ => ⟨hi, fun h1 => ⟨hi, ?_⟩, fun h1 => ?_⟩, fun h2 => absurd (by omega) h2⟩
    · have : 128 ≤ c.toNat := by omega
      simp only [this, decide_true, Bool.true_and]
      exact decide_eq_decide.2 (by omega)
    · have : ¬ 128 ≤ c.toNat := by omega
      simp only [this, decide_false, Bool.false_and]
  · have hn : s[i.toNat]? = none := List.getElem?_eq_none h
    simp (maxSteps := 400000) only [↓preZ, postZ, coreZ, ↓preU, postU, D_all, F_all, unR, outL, onePV, binS, ↓binS, q03, ↓q03, q01, ↓q01, boxR, q0b, newObj, q05, q00, q07, q09, q0a, St.freeze, q02, q08, q04, BEq.rfl, reduceIte, reduceCtorEq, Nat.reduceLT, Nat.reduceAdd, Nat.reduceSub, Nat.reduceMul, Nat.reduceBEq, Nat.reduceLeDiff, Int.reduceToNat, Int.reduceLE, q2a]
    simp only [contB, hn]
    exact ⟨fun hh => absurd hh (by omega), fun _ => trivial⟩
def q11 : Ctr := fun args objs K => match args with
  | [.str s, .int .i64 i] => (0 ≤ i) ∧ K (.bool (contB s i.toNat)) objs 0
  | _ => False
theorem ctrCont_ok : CtrOk Tryz.prog f_louperef02_cont (q11) := by
  intro args objs K h
  unfold q11 at h
  split at h
  · rename_i s i
    obtain ⟨h1, hk⟩ := h
    exact ⟨_, _, _, .pure _ rfl (cont_spec s i h1), hk⟩
  · exact h.elim
theorem q7u (s : List UInt8) (i k : Nat) : contB (s.drop i) k = contB s (i + k) := by
  simp only [contB, List.getElem?_drop]
theorem qa2 {s : List UInt8} {i : Nat} (h : contB s i = true) : ∃ d, s[i]? = some d := by
  unfold contB at h
  split at h
  · rename_i b hb; exact ⟨b, hb⟩
  · cases h
theorem rune_spec (s : List UInt8) (i : Nat) (hi : i < s.length) (hl : s.length ≤ 4611686018427387904) : FnSpec Tryz.prog f_louperef02_Rune [.str s, .int .i64 i] [] (.int .i64 (runeN (s.drop i) : Nat)) [] := by
  have hg := List.getElem?_eq_getElem hi
  have hd := List.drop_eq_getElem_cons hi
  generalize s[i] = c at hg hd
  have c0 : contB (s.drop (i + 1)) 0 = contB s (i + 1) := q7u s (i + 1) 0
  have c1 : contB (s.drop (i + 1)) 1 = contB s (i + 2) := q7u s (i + 1) 1
  have c2 : contB (s.drop (i + 1)) 2 = contB s (i + 3) := q7u s (i + 1) 2
  have n1 : ((i : Int) + 1).toNat = i + 1 := by omega
  have n2 : ((i : Int) + 2).toNat = i + 2 := by omega
  have n3 : ((i : Int) + 3).toNat = i + 3 := by omega
  have z0 : (0 ≤ (i : Int)) = True := eq_true (by omega)
  have z1 : (0 ≤ (i : Int) + 1) = True := eq_true (by omega)
  have z2 : (0 ≤ (i : Int) + 2) = True := eq_true (by omega)
  have z3 : (0 ≤ (i : Int) + 3) = True := eq_true (by omega)
  have i1 : (-9223372036854775808 ≤ (i : Int) + 1 ∧ (i : Int) + 1 ≤ 9223372036854775807) = True := eq_true ⟨by omega, by omega⟩
  have i2 : (-9223372036854775808 ≤ (i : Int) + 2 ∧ (i : Int) + 2 ≤ 9223372036854775807) = True := eq_true ⟨by omega, by omega⟩
  have i3 : (-9223372036854775808 ≤ (i : Int) + 3 ∧ (i : Int) + 3 ≤ 9223372036854775807) = True := eq_true ⟨by omega, by omega⟩
  suffices gen : ∀ Q : Exit → St → Prop, (∀ (l : List (Nat × PV)) (v : Nat), lkA l 4 = .int .i64 v → v = runeN (c :: s.drop (i + 1)) → Q .ret ⟨tmA 109 l, []⟩) →
      wpc Tryz.prog D (tabL Tryz.prog [(f_louperef02_cont, q11)]) q0e Q (q0s [.str s, .int .i64 i] 109) by
    rw [hd]
    refine k_louperef02_Rune.pure (T := tabL Tryz.prog [(f_louperef02_cont, q11)]) 0 hD (q0g (q0c ctrCont_ok q0d)) hmix (by decide) ?_
    try simp only [F_all]
    refine gen _ fun l v h1 h2 => ?_
    subst h2
    simp only [retR, outL, onePV, stR2, taR2, Nat.reduceLT, h1, List.map_cons, List.map_nil, frR]
  intro Q hQ
  have hc : c.toNat < 256 := c.toNat_lt
  have h6 : c.toNat < 128 ∨ (128 ≤ c.toNat ∧ c.toNat < 194) ∨ (194 ≤ c.toNat ∧ c.toNat < 224) ∨ (224 ≤ c.toNat ∧ c.toNat < 240) ∨ (240 ≤ c.toNat ∧ c.toNat < 245) ∨ 245 ≤ c.toNat := by omega
  rcases h6 with h | h | h | h | h | h
  · skip
    have f0 : (((c.toNat : Int) < 128) = True) := eq_true (by omega)
    have f1 : ((128 ≤ (c.toNat : Int)) = False) := eq_false (by omega)
    have f2 : ((c < 128) = True) := eq_true ((u8c c 128 (by omega)).1.2 (by omega))
    have f3 : ((128 ≤ c) = False) := eq_false fun hh => by have := (u8c c 128 (by omega)).2.1 hh; omega
    have f4 : (((c.toNat : Int) < 194) = True) := eq_true (by omega)
    have f5 : ((194 ≤ (c.toNat : Int)) = False) := eq_false (by omega)
    have f6 : ((c < 194) = True) := eq_true ((u8c c 194 (by omega)).1.2 (by omega))
    have f7 : ((194 ≤ c) = False) := eq_false fun hh => by have := (u8c c 194 (by omega)).2.1 hh; omega
    have f8 : (((c.toNat : Int) < 224) = True) := eq_true (by omega)
    have f9 : ((224 ≤ (c.toNat : Int)) = False) := eq_false (by omega)
    have f10 : ((c < 224) = True) := eq_true ((u8c c 224 (by omega)).1.2 (by omega))
    have f11 : ((224 ≤ c) = False) := eq_false fun hh => by have := (u8c c 224 (by omega)).2.1 hh; omega
    have f12 : (((c.toNat : Int) < 240) = True) := eq_true (by omega)
    have f13 : ((240 ≤ (c.toNat : Int)) = False) := eq_false (by omega)
    have f14 : ((c < 240) = True) := eq_true ((u8c c 240 (by omega)).1.2 (by omega))
    have f15 : ((240 ≤ c) = False) := eq_false fun hh => by have := (u8c c 240 (by omega)).2.1 hh; omega
    have f16 : (((c.toNat : Int) < 245) = True) := eq_true (by omega)
    have f17 : ((245 ≤ (c.toNat : Int)) = False) := eq_false (by omega)
    have f18 : ((c < 245) = True) := eq_true ((u8c c 245 (by omega)).1.2 (by omega))
    have f19 : ((245 ≤ c) = False) := eq_false fun hh => by have := (u8c c 245 (by omega)).2.1 hh; omega
    simp (maxSteps := 400000) only [↓preZ, postZ, coreZ, ↓preU, postU, D_all, F_all, unR, outL, onePV, binS, ↓binS, q03, ↓q03, q01, ↓q01, boxR, q0b, newObj, q05, q00, q07, q09, q0a, St.freeze, q02, q08, q04, BEq.rfl, reduceIte, reduceCtorEq, Nat.reduceLT, Nat.reduceAdd, Nat.reduceSub, Nat.reduceMul, Nat.reduceBEq, Nat.reduceLeDiff, Int.reduceToNat, Int.reduceLE, q0e, hg, ↓q11, n1, n2, n3, z0, z1, z2, z3, i1, i2, i3, f0, f1, f2, f3, f4, f5, f6, f7, f8, f9, f10, f11, f12, f13, f14, f15, f16, f17, f18, f19]
    exact hQ _ 1 rfl (by simp only [true_or, or_true, or_self, or_false, false_or, and_self, true_and, and_true, false_and, and_false, if_true, if_false, Bool.false_eq_true, c0, c1, c2, runeN, f0, f1, f2, f3, f4, f5, f6, f7, f8, f9, f10, f11, f12, f13, f14, f15, f16, f17, f18, f19])
  · skip
    have f0 : (((c.toNat : Int) < 128) = False) := eq_false (by omega)
    have f1 : ((128 ≤ (c.toNat : Int)) = True) := eq_true (by omega)
    have f2 : ((c < 128) = False) := eq_false fun hh => by have := (u8c c 128 (by omega)).1.1 hh; omega
    have f3 : ((128 ≤ c) = True) := eq_true ((u8c c 128 (by omega)).2.2 (by omega))
    have f4 : (((c.toNat : Int) < 194) = True) := eq_true (by omega)
    have f5 : ((194 ≤ (c.toNat : Int)) = False) := eq_false (by omega)
    have f6 : ((c < 194) = True) := eq_true ((u8c c 194 (by omega)).1.2 (by omega))
    have f7 : ((194 ≤ c) = False) := eq_false fun hh => by have := (u8c c 194 (by omega)).2.1 hh; omega
    have f8 : (((c.toNat : Int) < 224) = True) := eq_true (by omega)
    have f9 : ((224 ≤ (c.toNat : Int)) = False) := eq_false (by omega)
    have f10 : ((c < 224) = True) := eq_true ((u8c c 224 (by omega)).1.2 (by omega))
    have f11 : ((224 ≤ c) = False) := eq_false fun hh => by have := (u8c c 224 (by omega)).2.1 hh; omega
    have f12 : (((c.toNat : Int) < 240) = True) := eq_true (by omega)
    have f13 : ((240 ≤ (c.toNat : Int)) = False) := eq_false (by omega)
    have f14 : ((c < 240) = True) := eq_true ((u8c c 240 (by omega)).1.2 (by omega))
    have f15 : ((240 ≤ c) = False) := eq_false fun hh => by have := (u8c c 240 (by omega)).2.1 hh; omega
    have f16 : (((c.toNat : Int) < 245) = True) := eq_true (by omega)
    have f17 : ((245 ≤ (c.toNat : Int)) = False) := eq_false (by omega)
    have f18 : ((c < 245) = True) := eq_true ((u8c c 245 (by omega)).1.2 (by omega))
    have f19 : ((245 ≤ c) = False) := eq_false fun hh => by have := (u8c c 245 (by omega)).2.1 hh; omega
    simp (maxSteps := 400000) only [↓preZ, postZ, coreZ, ↓preU, postU, D_all, F_all, unR, outL, onePV, binS, ↓binS, q03, ↓q03, q01, ↓q01, boxR, q0b, newObj, q05, q00, q07, q09, q0a, St.freeze, q02, q08, q04, BEq.rfl, reduceIte, reduceCtorEq, Nat.reduceLT, Nat.reduceAdd, Nat.reduceSub, Nat.reduceMul, Nat.reduceBEq, Nat.reduceLeDiff, Int.reduceToNat, Int.reduceLE, q0e, hg, ↓q11, n1, n2, n3, z0, z1, z2, z3, i1, i2, i3, f0, f1, f2, f3, f4, f5, f6, f7, f8, f9, f10, f11, f12, f13, f14, f15, f16, f17, f18, f19]
    exact hQ _ 0 rfl (by simp only [true_or, or_true, or_self, or_false, false_or, and_self, true_and, and_true, false_and, and_false, if_true, if_false, Bool.false_eq_true, c0, c1, c2, runeN, f0, f1, f2, f3, f4, f5, f6, f7, f8, f9, f10, f11, f12, f13, f14, f15, f16, f17, f18, f19])
  · skip
    have f0 : (((c.toNat : Int) < 128) = False) := eq_false (by omega)
    have f1 : ((128 ≤ (c.toNat : Int)) = True) := eq_true (by omega)
    have f2 : ((c < 128) = False) := eq_false fun hh => by have := (u8c c 128 (by omega)).1.1 hh; omega
    have f3 : ((128 ≤ c) = True) := eq_true ((u8c c 128 (by omega)).2.2 (by omega))
    have f4 : (((c.toNat : Int) < 194) = False) := eq_false (by omega)
    have f5 : ((194 ≤ (c.toNat : Int)) = True) := eq_true (by omega)
    have f6 : ((c < 194) = False) := eq_false fun hh => by have := (u8c c 194 (by omega)).1.1 hh; omega
    have f7 : ((194 ≤ c) = True) := eq_true ((u8c c 194 (by omega)).2.2 (by omega))
    have f8 : (((c.toNat : Int) < 224) = True) := eq_true (by omega)
    have f9 : ((224 ≤ (c.toNat : Int)) = False) := eq_false (by omega)
    have f10 : ((c < 224) = True) := eq_true ((u8c c 224 (by omega)).1.2 (by omega))
    have f11 : ((224 ≤ c) = False) := eq_false fun hh => by have := (u8c c 224 (by omega)).2.1 hh; omega
    have f12 : (((c.toNat : Int) < 240) = True) := eq_true (by omega)
    have f13 : ((240 ≤ (c.toNat : Int)) = False) := eq_false (by omega)
    have f14 : ((c < 240) = True) := eq_true ((u8c c 240 (by omega)).1.2 (by omega))
    have f15 : ((240 ≤ c) = False) := eq_false fun hh => by have := (u8c c 240 (by omega)).2.1 hh; omega
    have f16 : (((c.toNat : Int) < 245) = True) := eq_true (by omega)
    have f17 : ((245 ≤ (c.toNat : Int)) = False) := eq_false (by omega)
    have f18 : ((c < 245) = True) := eq_true ((u8c c 245 (by omega)).1.2 (by omega))
    have f19 : ((245 ≤ c) = False) := eq_false fun hh => by have := (u8c c 245 (by omega)).2.1 hh; omega
    cases k1 : contB s (i + 1)
    · skip
      simp (maxSteps := 400000) only [↓preZ, postZ, coreZ, ↓preU, postU, D_all, F_all, unR, outL, onePV, binS, ↓binS, q03, ↓q03, q01, ↓q01, boxR, q0b, newObj, q05, q00, q07, q09, q0a, St.freeze, q02, q08, q04, BEq.rfl, reduceIte, reduceCtorEq, Nat.reduceLT, Nat.reduceAdd, Nat.reduceSub, Nat.reduceMul, Nat.reduceBEq, Nat.reduceLeDiff, Int.reduceToNat, Int.reduceLE, q0e, hg, ↓q11, n1, n2, n3, z0, z1, z2, z3, i1, i2, i3, f0, f1, f2, f3, f4, f5, f6, f7, f8, f9, f10, f11, f12, f13, f14, f15, f16, f17, f18, f19, k1]
      exact hQ _ 0 rfl (by simp only [true_or, or_true, or_self, or_false, false_or, and_self, true_and, and_true, false_and, and_false, if_true, if_false, Bool.false_eq_true, c0, c1, c2, runeN, f0, f1, f2, f3, f4, f5, f6, f7, f8, f9, f10, f11, f12, f13, f14, f15, f16, f17, f18, f19, k1])
    · skip
      simp (maxSteps := 400000) only [↓preZ, postZ, coreZ, ↓preU, postU, D_all, F_all, unR, outL, onePV, binS, ↓binS, q03, ↓q03, q01, ↓q01, boxR, q0b, newObj, q05, q00, q07, q09, q0a, St.freeze, q02, q08, q04, BEq.rfl, reduceIte, reduceCtorEq, Nat.reduceLT, Nat.reduceAdd, Nat.reduceSub, Nat.reduceMul, Nat.reduceBEq, Nat.reduceLeDiff, Int.reduceToNat, Int.reduceLE, q0e, hg, ↓q11, n1, n2, n3, z0, z1, z2, z3, i1, i2, i3, f0, f1, f2, f3, f4, f5, f6, f7, f8, f9, f10, f11, f12, f13, f14, f15, f16, f17, f18, f19, k1]
      exact hQ _ 2 rfl (by simp only [true_or, or_true, or_self, or_false, false_or, and_self, true_and, and_true, false_and, and_false, if_true, if_false, Bool.false_eq_true, c0, c1, c2, runeN, f0, f1, f2, f3, f4, f5, f6, f7, f8, f9, f10, f11, f12, f13, f14, f15, f16, f17, f18, f19, k1])
  · skip
    have f0 : (((c.toNat : Int) < 128) = False) := eq_false (by omega)
    have f1 : ((128 ≤ (c.toNat : Int)) = True) := eq_true (by omega)
    have f2 : ((c < 128) = False) := eq_false fun hh => by have := (u8c c 128 (by omega)).1.1 hh; omega
    have f3 : ((128 ≤ c) = True) := eq_true ((u8c c 128 (by omega)).2.2 (by omega))
    have f4 : (((c.toNat : Int) < 194) = False) := eq_false (by omega)
    have f5 : ((194 ≤ (c.toNat : Int)) = True) := eq_true (by omega)
    have f6 : ((c < 194) = False) := eq_false fun hh => by have := (u8c c 194 (by omega)).1.1 hh; omega
    have f7 : ((194 ≤ c) = True) := eq_true ((u8c c 194 (by omega)).2.2 (by omega))
    have f8 : (((c.toNat : Int) < 224) = False) := eq_false (by omega)
    have f9 : ((224 ≤ (c.toNat : Int)) = True) := eq_true (by omega)
    have f10 : ((c < 224) = False) := eq_false fun hh => by have := (u8c c 224 (by omega)).1.1 hh; omega
    have f11 : ((224 ≤ c) = True) := eq_true ((u8c c 224 (by omega)).2.2 (by omega))
    have f12 : (((c.toNat : Int) < 240) = True) := eq_true (by omega)
    have f13 : ((240 ≤ (c.toNat : Int)) = False) := eq_false (by omega)
    have f14 : ((c < 240) = True) := eq_true ((u8c c 240 (by omega)).1.2 (by omega))
    have f15 : ((240 ≤ c) = False) := eq_false fun hh => by have := (u8c c 240 (by omega)).2.1 hh; omega
    have f16 : (((c.toNat : Int) < 245) = True) := eq_true (by omega)
    have f17 : ((245 ≤ (c.toNat : Int)) = False) := eq_false (by omega)
    have f18 : ((c < 245) = True) := eq_true ((u8c c 245 (by omega)).1.2 (by omega))
    have f19 : ((245 ≤ c) = False) := eq_false fun hh => by have := (u8c c 245 (by omega)).2.1 hh; omega
    cases k1 : contB s (i + 1)
    · skip
      simp (maxSteps := 400000) only [↓preZ, postZ, coreZ, ↓preU, postU, D_all, F_all, unR, outL, onePV, binS, ↓binS, q03, ↓q03, q01, ↓q01, boxR, q0b, newObj, q05, q00, q07, q09, q0a, St.freeze, q02, q08, q04, BEq.rfl, reduceIte, reduceCtorEq, Nat.reduceLT, Nat.reduceAdd, Nat.reduceSub, Nat.reduceMul, Nat.reduceBEq, Nat.reduceLeDiff, Int.reduceToNat, Int.reduceLE, q0e, hg, ↓q11, n1, n2, n3, z0, z1, z2, z3, i1, i2, i3, f0, f1, f2, f3, f4, f5, f6, f7, f8, f9, f10, f11, f12, f13, f14, f15, f16, f17, f18, f19, k1]
      exact hQ _ 0 rfl (by simp only [true_or, or_true, or_self, or_false, false_or, and_self, true_and, and_true, false_and, and_false, if_true, if_false, Bool.false_eq_true, c0, c1, c2, runeN, f0, f1, f2, f3, f4, f5, f6, f7, f8, f9, f10, f11, f12, f13, f14, f15, f16, f17, f18, f19, k1])
    cases k2 : contB s (i + 2)
    · skip
      simp (maxSteps := 400000) only [↓preZ, postZ, coreZ, ↓preU, postU, D_all, F_all, unR, outL, onePV, binS, ↓binS, q03, ↓q03, q01, ↓q01, boxR, q0b, newObj, q05, q00, q07, q09, q0a, St.freeze, q02, q08, q04, BEq.rfl, reduceIte, reduceCtorEq, Nat.reduceLT, Nat.reduceAdd, Nat.reduceSub, Nat.reduceMul, Nat.reduceBEq, Nat.reduceLeDiff, Int.reduceToNat, Int.reduceLE, q0e, hg, ↓q11, n1, n2, n3, z0, z1, z2, z3, i1, i2, i3, f0, f1, f2, f3, f4, f5, f6, f7, f8, f9, f10, f11, f12, f13, f14, f15, f16, f17, f18, f19, k1, k2]
      exact hQ _ 0 rfl (by simp only [true_or, or_true, or_self, or_false, false_or, and_self, true_and, and_true, false_and, and_false, if_true, if_false, Bool.false_eq_true, c0, c1, c2, runeN, f0, f1, f2, f3, f4, f5, f6, f7, f8, f9, f10, f11, f12, f13, f14, f15, f16, f17, f18, f19, k1, k2])
    obtain ⟨d, hd1⟩ := qa2 k1
    have hhd : (List.drop (i + 1) s).headD 0 = d := by rw [List.headD_eq_head?_getD, List.head?_drop, hd1]; rfl
    by_cases hc224 : c.toNat = 224
    · have hc237 : c.toNat ≠ 237 := by omega
      have e0 : (((c.toNat : Int) = 224) = True) := eq_true (by omega)
      have e1 : ((c = 224) = True) := eq_true (UInt8.toNat_inj.1 (by simpa using hc224))
      have e2 : (((c.toNat : Int) = 237) = False) := eq_false (by omega)
      have e3 : ((c = 237) = False) := eq_false fun hh => hc237 (by rw [hh]; rfl)
      by_cases hdl : d.toNat < 160
      · skip
        have g0 : (((d.toNat : Int) < 160) = True) := eq_true (by omega)
        have g1 : ((160 ≤ (d.toNat : Int)) = False) := eq_false (by omega)
        have g2 : ((d < 160) = True) := eq_true ((u8c d 160 (by omega)).1.2 (by omega))
        have g3 : ((160 ≤ d) = False) := eq_false fun hh => by have := (u8c d 160 (by omega)).2.1 hh; omega
        simp (maxSteps := 400000) only [↓preZ, postZ, coreZ, ↓preU, postU, D_all, F_all, unR, outL, onePV, binS, ↓binS, q03, ↓q03, q01, ↓q01, boxR, q0b, newObj, q05, q00, q07, q09, q0a, St.freeze, q02, q08, q04, BEq.rfl, reduceIte, reduceCtorEq, Nat.reduceLT, Nat.reduceAdd, Nat.reduceSub, Nat.reduceMul, Nat.reduceBEq, Nat.reduceLeDiff, Int.reduceToNat, Int.reduceLE, q0e, hg, ↓q11, n1, n2, n3, z0, z1, z2, z3, i1, i2, i3, f0, f1, f2, f3, f4, f5, f6, f7, f8, f9, f10, f11, f12, f13, f14, f15, f16, f17, f18, f19, k1, k2, hd1, hhd, e0, e1, e2, e3, g0, g1, g2, g3]
        exact hQ _ 0 rfl (by simp only [true_or, or_true, or_self, or_false, false_or, and_self, true_and, and_true, false_and, and_false, if_true, if_false, Bool.false_eq_true, c0, c1, c2, runeN, f0, f1, f2, f3, f4, f5, f6, f7, f8, f9, f10, f11, f12, f13, f14, f15, f16, f17, f18, f19, k1, k2, hd1, hhd, e0, e1, e2, e3, g0, g1, g2, g3])
      · skip
        have g0 : (((d.toNat : Int) < 160) = False) := eq_false (by omega)
        have g1 : ((160 ≤ (d.toNat : Int)) = True) := eq_true (by omega)
        have g2 : ((d < 160) = False) := eq_false fun hh => by have := (u8c d 160 (by omega)).1.1 hh; omega
        have g3 : ((160 ≤ d) = True) := eq_true ((u8c d 160 (by omega)).2.2 (by omega))
        simp (maxSteps := 400000) only [↓preZ, postZ, coreZ, ↓preU, postU, D_all, F_all, unR, outL, onePV, binS, ↓binS, q03, ↓q03, q01, ↓q01, boxR, q0b, newObj, q05, q00, q07, q09, q0a, St.freeze, q02, q08, q04, BEq.rfl, reduceIte, reduceCtorEq, Nat.reduceLT, Nat.reduceAdd, Nat.reduceSub, Nat.reduceMul, Nat.reduceBEq, Nat.reduceLeDiff, Int.reduceToNat, Int.reduceLE, q0e, hg, ↓q11, n1, n2, n3, z0, z1, z2, z3, i1, i2, i3, f0, f1, f2, f3, f4, f5, f6, f7, f8, f9, f10, f11, f12, f13, f14, f15, f16, f17, f18, f19, k1, k2, hd1, hhd, e0, e1, e2, e3, g0, g1, g2, g3]
        exact hQ _ 3 rfl (by simp only [true_or, or_true, or_self, or_false, false_or, and_self, true_and, and_true, false_and, and_false, if_true, if_false, Bool.false_eq_true, c0, c1, c2, runeN, f0, f1, f2, f3, f4, f5, f6, f7, f8, f9, f10, f11, f12, f13, f14, f15, f16, f17, f18, f19, k1, k2, hd1, hhd, e0, e1, e2, e3, g0, g1, g2, g3])
    · by_cases hc237 : c.toNat = 237
      · skip
        have e0 : (((c.toNat : Int) = 224) = False) := eq_false (by omega)
        have e1 : ((c = 224) = False) := eq_false fun hh => hc224 (by rw [hh]; rfl)
        have e2 : (((c.toNat : Int) = 237) = True) := eq_true (by omega)
        have e3 : ((c = 237) = True) := eq_true (UInt8.toNat_inj.1 (by simpa using hc237))
        by_cases hdl : d.toNat < 160
        · skip
          have g0 : (((d.toNat : Int) < 160) = True) := eq_true (by omega)
          have g1 : ((160 ≤ (d.toNat : Int)) = False) := eq_false (by omega)
          have g2 : ((d < 160) = True) := eq_true ((u8c d 160 (by omega)).1.2 (by omega))
          have g3 : ((160 ≤ d) = False) := eq_false fun hh => by have := (u8c d 160 (by omega)).2.1 hh; omega
          simp (maxSteps := 400000) only [↓preZ, postZ, coreZ, ↓preU, postU, D_all, F_all, unR, outL, onePV, binS, ↓binS, q03, ↓q03, q01, ↓q01, boxR, q0b, newObj, q05, q00, q07, q09, q0a, St.freeze, q02, q08, q04, BEq.rfl, reduceIte, reduceCtorEq, Nat.reduceLT, Nat.reduceAdd, Nat.reduceSub, Nat.reduceMul, Nat.reduceBEq, Nat.reduceLeDiff, Int.reduceToNat, Int.reduceLE, q0e, hg, ↓q11, n1, n2, n3, z0, z1, z2, z3, i1, i2, i3, f0, f1, f2, f3, f4, f5, f6, f7, f8, f9, f10, f11, f12, f13, f14, f15, f16, f17, f18, f19, k1, k2, hd1, hhd, e0, e1, e2, e3, g0, g1, g2, g3]
          exact hQ _ 3 rfl (by simp only [true_or, or_true, or_self, or_false, false_or, and_self, true_and, and_true, false_and, and_false, if_true, if_false, Bool.false_eq_true, c0, c1, c2, runeN, f0, f1, f2, f3, f4, f5, f6, f7, f8, f9, f10, f11, f12, f13, f14, f15, f16, f17, f18, f19, k1, k2, hd1, hhd, e0, e1, e2, e3, g0, g1, g2, g3])
        · skip
          have g0 : (((d.toNat : Int) < 160) = False) := eq_false (by omega)
          have g1 : ((160 ≤ (d.toNat : Int)) = True) := eq_true (by omega)
          have g2 : ((d < 160) = False) := eq_false fun hh => by have := (u8c d 160 (by omega)).1.1 hh; omega
          have g3 : ((160 ≤ d) = True) := eq_true ((u8c d 160 (by omega)).2.2 (by omega))
          simp (maxSteps := 400000) only [↓preZ, postZ, coreZ, ↓preU, postU, D_all, F_all, unR, outL, onePV, binS, ↓binS, q03, ↓q03, q01, ↓q01, boxR, q0b, newObj, q05, q00, q07, q09, q0a, St.freeze, q02, q08, q04, BEq.rfl, reduceIte, reduceCtorEq, Nat.reduceLT, Nat.reduceAdd, Nat.reduceSub, Nat.reduceMul, Nat.reduceBEq, Nat.reduceLeDiff, Int.reduceToNat, Int.reduceLE, q0e, hg, ↓q11, n1, n2, n3, z0, z1, z2, z3, i1, i2, i3, f0, f1, f2, f3, f4, f5, f6, f7, f8, f9, f10, f11, f12, f13, f14, f15, f16, f17, f18, f19, k1, k2, hd1, hhd, e0, e1, e2, e3, g0, g1, g2, g3]
          exact hQ _ 0 rfl (by simp only [true_or, or_true, or_self, or_false, false_or, and_self, true_and, and_true, false_and, and_false, if_true, if_false, Bool.false_eq_true, c0, c1, c2, runeN, f0, f1, f2, f3, f4, f5, f6, f7, f8, f9, f10, f11, f12, f13, f14, f15, f16, f17, f18, f19, k1, k2, hd1, hhd, e0, e1, e2, e3, g0, g1, g2, g3])
      · skip
        have e0 : (((c.toNat : Int) = 224) = False) := eq_false (by omega)
        have e1 : ((c = 224) = False) := eq_false fun hh => hc224 (by rw [hh]; rfl)
        have e2 : (((c.toNat : Int) = 237) = False) := eq_false (by omega)
        have e3 : ((c = 237) = False) := eq_false fun hh => hc237 (by rw [hh]; rfl)
        simp (maxSteps := 400000) only [↓preZ, postZ, coreZ, ↓preU, postU, D_all, F_all, unR, outL, onePV, binS, ↓binS, q03, ↓q03, q01, ↓q01, boxR, q0b, newObj, q05, q00, q07, q09, q0a, St.freeze, q02, q08, q04, BEq.rfl, reduceIte, reduceCtorEq, Nat.reduceLT, Nat.reduceAdd, Nat.reduceSub, Nat.reduceMul, Nat.reduceBEq, Nat.reduceLeDiff, Int.reduceToNat, Int.reduceLE, q0e, hg, ↓q11, n1, n2, n3, z0, z1, z2, z3, i1, i2, i3, f0, f1, f2, f3, f4, f5, f6, f7, f8, f9, f10, f11, f12, f13, f14, f15, f16, f17, f18, f19, k1, k2, hd1, hhd, e0, e1, e2, e3]
        exact hQ _ 3 rfl (by simp only [true_or, or_true, or_self, or_false, false_or, and_self, true_and, and_true, false_and, and_false, if_true, if_false, Bool.false_eq_true, c0, c1, c2, runeN, f0, f1, f2, f3, f4, f5, f6, f7, f8, f9, f10, f11, f12, f13, f14, f15, f16, f17, f18, f19, k1, k2, hd1, hhd, e0, e1, e2, e3])
  · skip
    have f0 : (((c.toNat : Int) < 128) = False) := eq_false (by omega)
    have f1 : ((128 ≤ (c.toNat : Int)) = True) := eq_true (by omega)
    have f2 : ((c < 128) = False) := eq_false fun hh => by have := (u8c c 128 (by omega)).1.1 hh; omega
    have f3 : ((128 ≤ c) = True) := eq_true ((u8c c 128 (by omega)).2.2 (by omega))
    have f4 : (((c.toNat : Int) < 194) = False) := eq_false (by omega)
    have f5 : ((194 ≤ (c.toNat : Int)) = True) := eq_true (by omega)
    have f6 : ((c < 194) = False) := eq_false fun hh => by have := (u8c c 194 (by omega)).1.1 hh; omega
    have f7 : ((194 ≤ c) = True) := eq_true ((u8c c 194 (by omega)).2.2 (by omega))
    have f8 : (((c.toNat : Int) < 224) = False) := eq_false (by omega)
    have f9 : ((224 ≤ (c.toNat : Int)) = True) := eq_true (by omega)
    have f10 : ((c < 224) = False) := eq_false fun hh => by have := (u8c c 224 (by omega)).1.1 hh; omega
    have f11 : ((224 ≤ c) = True) := eq_true ((u8c c 224 (by omega)).2.2 (by omega))
    have f12 : (((c.toNat : Int) < 240) = False) := eq_false (by omega)
    have f13 : ((240 ≤ (c.toNat : Int)) = True) := eq_true (by omega)
    have f14 : ((c < 240) = False) := eq_false fun hh => by have := (u8c c 240 (by omega)).1.1 hh; omega
    have f15 : ((240 ≤ c) = True) := eq_true ((u8c c 240 (by omega)).2.2 (by omega))
    have f16 : (((c.toNat : Int) < 245) = True) := eq_true (by omega)
    have f17 : ((245 ≤ (c.toNat : Int)) = False) := eq_false (by omega)
    have f18 : ((c < 245) = True) := eq_true ((u8c c 245 (by omega)).1.2 (by omega))
    have f19 : ((245 ≤ c) = False) := eq_false fun hh => by have := (u8c c 245 (by omega)).2.1 hh; omega
    cases k1 : contB s (i + 1)
    · skip
      simp (maxSteps := 400000) only [↓preZ, postZ, coreZ, ↓preU, postU, D_all, F_all, unR, outL, onePV, binS, ↓binS, q03, ↓q03, q01, ↓q01, boxR, q0b, newObj, q05, q00, q07, q09, q0a, St.freeze, q02, q08, q04, BEq.rfl, reduceIte, reduceCtorEq, Nat.reduceLT, Nat.reduceAdd, Nat.reduceSub, Nat.reduceMul, Nat.reduceBEq, Nat.reduceLeDiff, Int.reduceToNat, Int.reduceLE, q0e, hg, ↓q11, n1, n2, n3, z0, z1, z2, z3, i1, i2, i3, f0, f1, f2, f3, f4, f5, f6, f7, f8, f9, f10, f11, f12, f13, f14, f15, f16, f17, f18, f19, k1]
      exact hQ _ 0 rfl (by simp only [true_or, or_true, or_self, or_false, false_or, and_self, true_and, and_true, false_and, and_false, if_true, if_false, Bool.false_eq_true, c0, c1, c2, runeN, f0, f1, f2, f3, f4, f5, f6, f7, f8, f9, f10, f11, f12, f13, f14, f15, f16, f17, f18, f19, k1])
    cases k2 : contB s (i + 2)
    · skip
      simp (maxSteps := 400000) only [↓preZ, postZ, coreZ, ↓preU, postU, D_all, F_all, unR, outL, onePV, binS, ↓binS, q03, ↓q03, q01, ↓q01, boxR, q0b, newObj, q05, q00, q07, q09, q0a, St.freeze, q02, q08, q04, BEq.rfl, reduceIte, reduceCtorEq, Nat.reduceLT, Nat.reduceAdd, Nat.reduceSub, Nat.reduceMul, Nat.reduceBEq, Nat.reduceLeDiff, Int.reduceToNat, Int.reduceLE, q0e, hg, ↓q11, n1, n2, n3, z0, z1, z2, z3, i1, i2, i3, f0, f1, f2, f3, f4, f5, f6, f7, f8, f9, f10, f11, f12, f13, f14, f15, f16, f17, f18, f19, k1, k2]
      exact hQ _ 0 rfl (by simp only [true_or, or_true, or_self, or_false, false_or, and_self, true_and, and_true, false_and, and_false, if_true, if_false, Bool.false_eq_true, c0, c1, c2, runeN, f0, f1, f2, f3, f4, f5, f6, f7, f8, f9, f10, f11, f12, f13, f14, f15, f16, f17, f18, f19, k1, k2])
    cases k3 : contB s (i + 3)
    · skip
      simp (maxSteps := 400000) only [↓preZ, postZ, coreZ, ↓preU, postU, D_all, F_all, unR, outL, onePV, binS, ↓binS, q03, ↓q03, q01, ↓q01, boxR, q0b, newObj, q05, q00, q07, q09, q0a, St.freeze, q02, q08, q04, BEq.rfl, reduceIte, reduceCtorEq, Nat.reduceLT, Nat.reduceAdd, Nat.reduceSub, Nat.reduceMul, Nat.reduceBEq, Nat.reduceLeDiff, Int.reduceToNat, Int.reduceLE, q0e, hg, ↓q11, n1, n2, n3, z0, z1, z2, z3, i1, i2, i3, f0, f1, f2, f3, f4, f5, f6, f7, f8, f9, f10, f11, f12, f13, f14, f15, f16, f17, f18, f19, k1, k2, k3]
      exact hQ _ 0 rfl (by simp only [true_or, or_true, or_self, or_false, false_or, and_self, true_and, and_true, false_and, and_false, if_true, if_false, Bool.false_eq_true, c0, c1, c2, runeN, f0, f1, f2, f3, f4, f5, f6, f7, f8, f9, f10, f11, f12, f13, f14, f15, f16, f17, f18, f19, k1, k2, k3])
    obtain ⟨d, hd1⟩ := qa2 k1
    have hhd : (List.drop (i + 1) s).headD 0 = d := by rw [List.headD_eq_head?_getD, List.head?_drop, hd1]; rfl
    by_cases hc240 : c.toNat = 240
    · have hc244 : c.toNat ≠ 244 := by omega
      have e0 : (((c.toNat : Int) = 240) = True) := eq_true (by omega)
      have e1 : ((c = 240) = True) := eq_true (UInt8.toNat_inj.1 (by simpa using hc240))
      have e2 : (((c.toNat : Int) = 244) = False) := eq_false (by omega)
      have e3 : ((c = 244) = False) := eq_false fun hh => hc244 (by rw [hh]; rfl)
      by_cases hdl : d.toNat < 144
      · skip
        have g0 : (((d.toNat : Int) < 144) = True) := eq_true (by omega)
        have g1 : ((144 ≤ (d.toNat : Int)) = False) := eq_false (by omega)
        have g2 : ((d < 144) = True) := eq_true ((u8c d 144 (by omega)).1.2 (by omega))
        have g3 : ((144 ≤ d) = False) := eq_false fun hh => by have := (u8c d 144 (by omega)).2.1 hh; omega
        simp (maxSteps := 400000) only [↓preZ, postZ, coreZ, ↓preU, postU, D_all, F_all, unR, outL, onePV, binS, ↓binS, q03, ↓q03, q01, ↓q01, boxR, q0b, newObj, q05, q00, q07, q09, q0a, St.freeze, q02, q08, q04, BEq.rfl, reduceIte, reduceCtorEq, Nat.reduceLT, Nat.reduceAdd, Nat.reduceSub, Nat.reduceMul, Nat.reduceBEq, Nat.reduceLeDiff, Int.reduceToNat, Int.reduceLE, q0e, hg, ↓q11, n1, n2, n3, z0, z1, z2, z3, i1, i2, i3, f0, f1, f2, f3, f4, f5, f6, f7, f8, f9, f10, f11, f12, f13, f14, f15, f16, f17, f18, f19, k1, k2, k3, hd1, hhd, e0, e1, e2, e3, g0, g1, g2, g3]
        exact hQ _ 0 rfl (by simp only [true_or, or_true, or_self, or_false, false_or, and_self, true_and, and_true, false_and, and_false, if_true, if_false, Bool.false_eq_true, c0, c1, c2, runeN, f0, f1, f2, f3, f4, f5, f6, f7, f8, f9, f10, f11, f12, f13, f14, f15, f16, f17, f18, f19, k1, k2, k3, hd1, hhd, e0, e1, e2, e3, g0, g1, g2, g3])
      · skip
        have g0 : (((d.toNat : Int) < 144) = False) := eq_false (by omega)
        have g1 : ((144 ≤ (d.toNat : Int)) = True) := eq_true (by omega)
        have g2 : ((d < 144) = False) := eq_false fun hh => by have := (u8c d 144 (by omega)).1.1 hh; omega
        have g3 : ((144 ≤ d) = True) := eq_true ((u8c d 144 (by omega)).2.2 (by omega))
        simp (maxSteps := 400000) only [↓preZ, postZ, coreZ, ↓preU, postU, D_all, F_all, unR, outL, onePV, binS, ↓binS, q03, ↓q03, q01, ↓q01, boxR, q0b, newObj, q05, q00, q07, q09, q0a, St.freeze, q02, q08, q04, BEq.rfl, reduceIte, reduceCtorEq, Nat.reduceLT, Nat.reduceAdd, Nat.reduceSub, Nat.reduceMul, Nat.reduceBEq, Nat.reduceLeDiff, Int.reduceToNat, Int.reduceLE, q0e, hg, ↓q11, n1, n2, n3, z0, z1, z2, z3, i1, i2, i3, f0, f1, f2, f3, f4, f5, f6, f7, f8, f9, f10, f11, f12, f13, f14, f15, f16, f17, f18, f19, k1, k2, k3, hd1, hhd, e0, e1, e2, e3, g0, g1, g2, g3]
        exact hQ _ 4 rfl (by simp only [true_or, or_true, or_self, or_false, false_or, and_self, true_and, and_true, false_and, and_false, if_true, if_false, Bool.false_eq_true, c0, c1, c2, runeN, f0, f1, f2, f3, f4, f5, f6, f7, f8, f9, f10, f11, f12, f13, f14, f15, f16, f17, f18, f19, k1, k2, k3, hd1, hhd, e0, e1, e2, e3, g0, g1, g2, g3])
    · by_cases hc244 : c.toNat = 244
      · skip
        have e0 : (((c.toNat : Int) = 240) = False) := eq_false (by omega)
        have e1 : ((c = 240) = False) := eq_false fun hh => hc240 (by rw [hh]; rfl)
        have e2 : (((c.toNat : Int) = 244) = True) := eq_true (by omega)
        have e3 : ((c = 244) = True) := eq_true (UInt8.toNat_inj.1 (by simpa using hc244))
        by_cases hdl : d.toNat < 144
        · skip
          have g0 : (((d.toNat : Int) < 144) = True) := eq_true (by omega)
          have g1 : ((144 ≤ (d.toNat : Int)) = False) := eq_false (by omega)
          have g2 : ((d < 144) = True) := eq_true ((u8c d 144 (by omega)).1.2 (by omega))
          have g3 : ((144 ≤ d) = False) := eq_false fun hh => by have := (u8c d 144 (by omega)).2.1 hh; omega
          simp (maxSteps := 400000) only [↓preZ, postZ, coreZ, ↓preU, postU, D_all, F_all, unR, outL, onePV, binS, ↓binS, q03, ↓q03, q01, ↓q01, boxR, q0b, newObj, q05, q00, q07, q09, q0a, St.freeze, q02, q08, q04, BEq.rfl, reduceIte, reduceCtorEq, Nat.reduceLT, Nat.reduceAdd, Nat.reduceSub, Nat.reduceMul, Nat.reduceBEq, Nat.reduceLeDiff, Int.reduceToNat, Int.reduceLE, q0e, hg, ↓q11, n1, n2, n3, z0, z1, z2, z3, i1, i2, i3, f0, f1, f2, f3, f4, f5, f6, f7, f8, f9, f10, f11, f12, f13, f14, f15, f16, f17, f18, f19, k1, k2, k3, hd1, hhd, e0, e1, e2, e3, g0, g1, g2, g3]
          exact hQ _ 4 rfl (by simp only [true_or, or_true, or_self, or_false, false_or, and_self, true_and, and_true, false_and, and_false, if_true, if_false, Bool.false_eq_true, c0, c1, c2, runeN, f0, f1, f2, f3, f4, f5, f6, f7, f8, f9, f10, f11, f12, f13, f14, f15, f16, f17, f18, f19, k1, k2, k3, hd1, hhd, e0, e1, e2, e3, g0, g1, g2, g3])
        · skip
          have g0 : (((d.toNat : Int) < 144) = False) := eq_false (by omega)
          have g1 : ((144 ≤ (d.toNat : Int)) = True) := eq_true (by omega)
          have g2 : ((d < 144) = False) := eq_false fun hh => by have := (u8c d 144 (by omega)).1.1 hh; omega
          have g3 : ((144 ≤ d) = True) := eq_true ((u8c d 144 (by omega)).2.2 (by omega))
          simp (maxSteps := 400000) only [↓preZ, postZ, coreZ, ↓preU, postU, D_all, F_all, unR, outL, onePV, binS, ↓binS, q03, ↓q03, q01, ↓q01, boxR, q0b, newObj, q05, q00, q07, q09, q0a, St.freeze, q02, q08, q04, BEq.rfl, reduceIte, reduceCtorEq, Nat.reduceLT, Nat.reduceAdd, Nat.reduceSub, Nat.reduceMul, Nat.reduceBEq, Nat.reduceLeDiff, Int.reduceToNat, Int.reduceLE, q0e, hg, ↓q11, n1, n2, n3, z0, z1, z2, z3, i1, i2, i3, f0, f1, f2, f3, f4, f5, f6, f7, f8, f9, f10, f11, f12, f13, f14, f15, f16, f17, f18, f19, k1, k2, k3, hd1, hhd, e0, e1, e2, e3, g0, g1, g2, g3]
          exact hQ _ 0 rfl (by simp only [true_or, or_true, or_self, or_false, false_or, and_self, true_and, and_true, false_and, and_false, if_true, if_false, Bool.false_eq_true, c0, c1, c2, runeN, f0, f1, f2, f3, f4, f5, f6, f7, f8, f9, f10, f11, f12, f13, f14, f15, f16, f17, f18, f19, k1, k2, k3, hd1, hhd, e0, e1, e2, e3, g0, g1, g2, g3])
      · skip
        have e0 : (((c.toNat : Int) = 240) = False) := eq_false (by omega)
        have e1 : ((c = 240) = False) := eq_false fun hh => hc240 (by rw [hh]; rfl)
        have e2 : (((c.toNat : Int) = 244) = False) := eq_false (by omega)
        have e3 : ((c = 244) = False) := eq_false fun hh => hc244 (by rw [hh]; rfl)
        simp (maxSteps := 400000) only [↓preZ, postZ, coreZ, ↓preU, postU, D_all, F_all, unR, outL, onePV, binS, ↓binS, q03, ↓q03, q01, ↓q01, boxR, q0b, newObj, q05, q00, q07, q09, q0a, St.freeze, q02, q08, q04, BEq.rfl, reduceIte, reduceCtorEq, Nat.reduceLT, Nat.reduceAdd, Nat.reduceSub, Nat.reduceMul, Nat.reduceBEq, Nat.reduceLeDiff, Int.reduceToNat, Int.reduceLE, q0e, hg, ↓q11, n1, n2, n3, z0, z1, z2, z3, i1, i2, i3, f0, f1, f2, f3, f4, f5, f6, f7, f8, f9, f10, f11, f12, f13, f14, f15, f16, f17, f18, f19, k1, k2, k3, hd1, hhd, e0, e1, e2, e3]
        exact hQ _ 4 rfl (by simp only [true_or, or_true, or_self, or_false, false_or, and_self, true_and, and_true, false_and, and_false, if_true, if_false, Bool.false_eq_true, c0, c1, c2, runeN, f0, f1, f2, f3, f4, f5, f6, f7, f8, f9, f10, f11, f12, f13, f14, f15, f16, f17, f18, f19, k1, k2, k3, hd1, hhd, e0, e1, e2, e3])
  · skip
    have f0 : (((c.toNat : Int) < 128) = False) := eq_false (by omega)
    have f1 : ((128 ≤ (c.toNat : Int)) = True) := eq_true (by omega)
    have f2 : ((c < 128) = False) := eq_false fun hh => by have := (u8c c 128 (by omega)).1.1 hh; omega
    have f3 : ((128 ≤ c) = True) := eq_true ((u8c c 128 (by omega)).2.2 (by omega))
    have f4 : (((c.toNat : Int) < 194) = False) := eq_false (by omega)
    have f5 : ((194 ≤ (c.toNat : Int)) = True) := eq_true (by omega)
    have f6 : ((c < 194) = False) := eq_false fun hh => by have := (u8c c 194 (by omega)).1.1 hh; omega
    have f7 : ((194 ≤ c) = True) := eq_true ((u8c c 194 (by omega)).2.2 (by omega))
    have f8 : (((c.toNat : Int) < 224) = False) := eq_false (by omega)
    have f9 : ((224 ≤ (c.toNat : Int)) = True) := eq_true (by omega)
    have f10 : ((c < 224) = False) := eq_false fun hh => by have := (u8c c 224 (by omega)).1.1 hh; omega
    have f11 : ((224 ≤ c) = True) := eq_true ((u8c c 224 (by omega)).2.2 (by omega))
    have f12 : (((c.toNat : Int) < 240) = False) := eq_false (by omega)
    have f13 : ((240 ≤ (c.toNat : Int)) = True) := eq_true (by omega)
    have f14 : ((c < 240) = False) := eq_false fun hh => by have := (u8c c 240 (by omega)).1.1 hh; omega
    have f15 : ((240 ≤ c) = True) := eq_true ((u8c c 240 (by omega)).2.2 (by omega))
    have f16 : (((c.toNat : Int) < 245) = False) := eq_false (by omega)
    have f17 : ((245 ≤ (c.toNat : Int)) = True) := eq_true (by omega)
    have f18 : ((c < 245) = False) := eq_false fun hh => by have := (u8c c 245 (by omega)).1.1 hh; omega
    have f19 : ((245 ≤ c) = True) := eq_true ((u8c c 245 (by omega)).2.2 (by omega))
    simp (maxSteps := 400000) only [↓preZ, postZ, coreZ, ↓preU, postU, D_all, F_all, unR, outL, onePV, binS, ↓binS, q03, ↓q03, q01, ↓q01, boxR, q0b, newObj, q05, q00, q07, q09, q0a, St.freeze, q02, q08, q04, BEq.rfl, reduceIte, reduceCtorEq, Nat.reduceLT, Nat.reduceAdd, Nat.reduceSub, Nat.reduceMul, Nat.reduceBEq, Nat.reduceLeDiff, Int.reduceToNat, Int.reduceLE, q0e, hg, ↓q11, n1, n2, n3, z0, z1, z2, z3, i1, i2, i3, f0, f1, f2, f3, f4, f5, f6, f7, f8, f9, f10, f11, f12, f13, f14, f15, f16, f17, f18, f19]
    exact hQ _ 0 rfl (by simp only [true_or, or_true, or_self, or_false, false_or, and_self, true_and, and_true, false_and, and_false, if_true, if_false, Bool.false_eq_true, c0, c1, c2, runeN, f0, f1, f2, f3, f4, f5, f6, f7, f8, f9, f10, f11, f12, f13, f14, f15, f16, f17, f18, f19])
theorem rune_spec' (s : List UInt8) (i : Int) (h0 : 0 ≤ i) (hi : i.toNat < s.length) (hl : s.length ≤ 4611686018427387904) : FnSpec Tryz.prog f_louperef02_Rune [.str s, .int .i64 i] [] (.int .i64 (runeN (s.drop i.toNat) : Nat)) [] := by
  have e : i = (i.toNat : Int) := by omega
  rw [e]
  exact rune_spec s i.toNat hi hl
def ctrRune : Ctr := fun args objs K => match args with
  | [.str s, .int .i64 i] => (0 ≤ i) ∧ (i.toNat < s.length) ∧ (s.length ≤ 4611686018427387904) ∧ K (.int .i64 (runeN (s.drop i.toNat) : Nat)) objs 0
  | _ => False
theorem ctrRune_ok : CtrOk Tryz.prog f_louperef02_Rune (ctrRune) := by
  intro args objs K h
  unfold ctrRune at h
  split at h
  · rename_i s i
    obtain ⟨h1, h2, h3, hk⟩ := h
    exact ⟨_, _, _, .pure _ rfl (rune_spec' s i h1 h2 h3), hk⟩
  · exact h.elim
end Lp

/-! LpW15 -/

namespace Lp
open Go Go.Proofs
set_option maxHeartbeats 4000000
set_option maxRecDepth 20000
set_option linter.unusedSimpArgs false
theorem runeN_le (s : List UInt8) : runeN s ≤ s.length := by
  cases s with
  | nil => simp [runeN]
  | cons c t =>
    have h0 : ∀ i, contB t i = true → i < t.length := by
      intro i h
      obtain ⟨d, hd⟩ := qa2 h
      exact (List.getElem?_eq_some_iff.1 hd).1
    simp only [runeN, List.length_cons]
    split
    · omega
    · split
      · rename_i h; have := h0 0 h.2.2; omega
      · split
        · rename_i h; have := h0 1 h.2.2.2; split <;> omega
        · split
          · rename_i h; have := h0 2 h.2.2.2.2; split <;> omega
          · omega
theorem utf_spec (s : List UInt8) (hl : s.length ≤ 4611686018427387904) : FnSpec Tryz.prog f_louperef02_Utf [.str s] [] (.bool (utf s)) [] := by
  refine k_louperef02_Utf.pureG (T := tabL Tryz.prog [(f_louperef02_Rune, ctrRune)]) 0 hD (q0g (q0c ctrRune_ok q0d)) hmix (by decide) fun Q hQ => ?_
  try simp only [F_all]
  simp (maxSteps := 400000) only [↓preZ, postZ, coreZ, ↓preU, postU, D_all, F_all, unR, outL, onePV, binS, ↓binS, q03, ↓q03, q01, ↓q01, boxR, q0b, newObj, q05, q00, q07, q09, q0a, St.freeze, q02, q08, q04, BEq.rfl, reduceIte, reduceCtorEq, Nat.reduceLT, Nat.reduceAdd, Nat.reduceSub, Nat.reduceMul, Nat.reduceBEq, Nat.reduceLeDiff, Int.reduceToNat, Int.reduceLE, hQ, q4r]
  refine q0t (fun m S => ∃ i : Nat, i + m = s.length ∧ utfF m (s.drop i) = utf s ∧ S = ⟨tmA 17 [(0, .str s), (3, .int .i64 i)], []⟩) s.length ⟨0, by omega, rfl, ?_⟩ ?_
  · simp only [normR, keepR, Nat.reduceAdd, lkR, Nat.reduceBEq, F_all, List.map_nil]
    rfl
  rintro m S ⟨i, him, hu, rfl⟩
  simp (maxSteps := 400000) only [↓preZ, postZ, coreZ, ↓preU, postU, D_all, F_all, unR, outL, onePV, binS, ↓binS, q03, ↓q03, q01, ↓q01, boxR, q0b, newObj, q05, q00, q07, q09, q0a, St.freeze, q02, q08, q04, BEq.rfl, reduceIte, reduceCtorEq, Nat.reduceLT, Nat.reduceAdd, Nat.reduceSub, Nat.reduceMul, Nat.reduceBEq, Nat.reduceLeDiff, Int.reduceToNat, Int.reduceLE, hQ, ↓ctrRune]
  have hle := runeN_le (s.drop i)
  simp only [List.length_drop] at hle
  refine ⟨fun h => ⟨by omega, by omega, hl, fun h0 => ?_, fun h0 => ⟨⟨by omega, by omega⟩, m - runeN (s.drop i), by omega, i + runeN (s.drop i), by omega, ?_, by simp⟩⟩, fun h => ?_⟩
  · obtain ⟨m, rfl⟩ : ∃ k, m = k + 1 := ⟨m - 1, by omega⟩
    have hne : (s.drop i).isEmpty = false := by
      rw [List.isEmpty_eq_false_iff]
      intro he
      have := congrArg List.length he
      simp at this; omega
    rw [← hu, utfF, hne]
    have : runeN (s.drop i) = 0 := by omega
    simp [this]
  · obtain ⟨m, rfl⟩ : ∃ k, m = k + 1 := ⟨m - 1, by omega⟩
    have hne : (s.drop i).isEmpty = false := by
      rw [List.isEmpty_eq_false_iff]
      intro he
      have := congrArg List.length he
      simp at this; omega
    rw [← hu]
    conv => rhs; rw [utfF, hne]
    have h1 : (runeN (s.drop i) != 0) = true := by simp; omega
    rw [h1, Bool.false_or, Bool.true_and, List.drop_drop]
    refine q9y _ _ _ ?_ ?_
    · simp; omega
    · simp; omega
  · rw [← hu]
    have hn : s.drop i = [] := List.drop_eq_nil_of_le (by omega)
    rw [hn]
    cases m <;> rfl
def q1v : Ctr := fun args objs K => match args with
  | [.str s] => (s.length ≤ 4611686018427387904) ∧ K (.bool (utf s)) objs 0
  | _ => False
theorem qa3 : CtrOk Tryz.prog f_louperef02_Utf (q1v) := by
  intro args objs K h
  unfold q1v at h
  split at h
  · rename_i s
    obtain ⟨h1, hk⟩ := h
    exact ⟨_, _, _, .pure _ rfl (utf_spec s h1), hk⟩
  · exact h.elim
theorem figures_spec (s : List UInt8) (hl : s.length ≤ 4611686018427387904) : FnSpec Tryz.prog f_louperef01_figures [.str s] [] (.bool (figs s)) [] := by
  refine k_louperef01_figures.pureG (T := tabL Tryz.prog []) 0 hD (q0g q0d) hmix (by decide) fun Q hQ => ?_
  try simp only [F_all]
  simp (maxSteps := 400000) only [↓preZ, postZ, coreZ, ↓preU, postU, D_all, F_all, unR, outL, onePV, binS, ↓binS, q03, ↓q03, q01, ↓q01, boxR, q0b, newObj, q05, q00, q07, q09, q0a, St.freeze, q02, q08, q04, BEq.rfl, reduceIte, reduceCtorEq, Nat.reduceLT, Nat.reduceAdd, Nat.reduceSub, Nat.reduceMul, Nat.reduceBEq, Nat.reduceLeDiff, Int.reduceToNat, Int.reduceLE, hQ, q2r]
  refine q0t (fun m S => ∃ i : Nat, i + m = s.length ∧ figs (s.drop i) = figs s ∧ S = ⟨tmA 20 [(0, .str s), (3, .int .i64 i)], []⟩) s.length ⟨0, by omega, rfl, ?_⟩ ?_
  · simp only [normR, keepR, Nat.reduceAdd, lkR, Nat.reduceBEq, F_all, List.map_nil]
    rfl
  rintro m S ⟨i, him, hu, rfl⟩
  rcases Nat.lt_or_ge i s.length with h | h
  · have hg := List.getElem?_eq_getElem h
    have hd := List.drop_eq_getElem_cons h
    generalize s[i] = c at hg hd
    simp (maxSteps := 400000) only [↓preZ, postZ, coreZ, ↓preU, postU, D_all, F_all, unR, outL, onePV, binS, ↓binS, q03, ↓q03, q01, ↓q01, boxR, q0b, newObj, q05, q00, q07, q09, q0a, St.freeze, q02, q08, q04, BEq.rfl, reduceIte, reduceCtorEq, Nat.reduceLT, Nat.reduceAdd, Nat.reduceSub, Nat.reduceMul, Nat.reduceBEq, Nat.reduceLeDiff, Int.reduceToNat, Int.reduceLE, hQ, hg]
    have hf : figs (c :: s.drop (i + 1)) = (decide (48 ≤ c) && decide (c ≤ 57) && figs (s.drop (i + 1))) := by simp [figs]
    rw [hd, hf] at hu
    refine ⟨fun _ => ⟨by omega, fun h1 => ?_, fun h1 => ⟨by omega, fun h2 => ?_, fun h2 => ⟨⟨by omega, by omega⟩, m - 1, by omega, i + 1, by omega, ?_, by simp⟩⟩⟩, fun h1 => absurd (by omega) h1⟩
    · have : ¬ (48 ≤ c) := fun h => by have := (u8c c 48 (by omega)).2.1 h; omega
      rw [← hu]; simp [this]
    · have : ¬ (c ≤ 57) := fun h => by have : c.toNat ≤ (57 : UInt8).toNat := UInt8.le_iff_toNat_le.1 h; have h57 : (57 : UInt8).toNat = 57 := rfl; omega
      rw [← hu]; simp [this]
    · have h3 : 48 ≤ c := (u8c c 48 (by omega)).2.2 (by omega)
      have h4 : c ≤ 57 := UInt8.le_iff_toNat_le.2 (by have h57 : (57 : UInt8).toNat = 57 := rfl; omega)
      rw [← hu]; simp [h3, h4]
  · simp (maxSteps := 400000) only [↓preZ, postZ, coreZ, ↓preU, postU, D_all, F_all, unR, outL, onePV, binS, ↓binS, q03, ↓q03, q01, ↓q01, boxR, q0b, newObj, q05, q00, q07, q09, q0a, St.freeze, q02, q08, q04, BEq.rfl, reduceIte, reduceCtorEq, Nat.reduceLT, Nat.reduceAdd, Nat.reduceSub, Nat.reduceMul, Nat.reduceBEq, Nat.reduceLeDiff, Int.reduceToNat, Int.reduceLE, hQ]
    refine ⟨fun h1 => absurd h1 (by omega), fun _ => ?_⟩
    rw [← hu, List.drop_eq_nil_of_le h]; rfl
def q7v : Ctr := fun args objs K => match args with
  | [.str s] => (s.length ≤ 4611686018427387904) ∧ K (.bool (figs s)) objs 0
  | _ => False
theorem ctrFigs_ok : CtrOk Tryz.prog f_louperef01_figures (q7v) := by
  intro args objs K h
  unfold q7v at h
  split at h
  · rename_i s
    obtain ⟨h1, hk⟩ := h
    exact ⟨_, _, _, .pure _ rfl (figures_spec s h1), hk⟩
  · exact h.elim
theorem q8y (n : Nd) : numB n = true ↔ n.many = 0 ∧ figs n.s = true ∧ n.s.length ≤ 100 ∧ -1000 ≤ n.e ∧ n.e ≤ 1000 ∧ n.s.length + n.e ≤ 1000 ∧
    (if n.s = [] then n.neg = false ∧ n.e = 0 else n.s.head? ≠ some 48 ∧ n.s.getLast? ≠ some 48) := by
  simp only [numB, Bool.and_eq_true, decide_eq_true_eq, beq_iff_eq, and_assoc]
  split <;> simp
theorem q22 {b : Bool} (h : b = true → False) : b = false := by cases b <;> simp_all
theorem numRight_spec (n : Nd) (hl : n.s.length ≤ 4611686018427387904) (hk : n.kind = 3) (hn : n.name = []) : FnSpec Tryz.prog f_louperef01_Right [encN n] [] (.bool (numB n)) [] := by
  refine k_louperef01_Right.pureG (T := tabL Tryz.prog [(f_louperef01_figures, q7v)]) 0 hD (q0g (q0c ctrFigs_ok q0d)) hmix (by decide) fun Q hQ => ?_
  try simp only [F_all]
  simp (maxSteps := 400000) only [↓preZ, postZ, coreZ, ↓preU, postU, D_all, F_all, unR, outL, onePV, binS, ↓binS, q03, ↓q03, q01, ↓q01, boxR, q0b, newObj, q05, q00, q07, q09, q0a, St.freeze, q02, q08, q04, BEq.rfl, reduceIte, reduceCtorEq, Nat.reduceLT, Nat.reduceAdd, Nat.reduceSub, Nat.reduceMul, Nat.reduceBEq, Nat.reduceLeDiff, Int.reduceToNat, Int.reduceLE, hQ, q3f]
  refine q4a _ (Weak.freeze 1 0 (Nat.le_refl _) _) ?_
  cases hf : figs n.s
  · simp (maxSteps := 400000) only [↓preZ, postZ, coreZ, ↓preU, postU, D_all, F_all, unR, outL, onePV, binS, ↓binS, q03, ↓q03, q01, ↓q01, boxR, q0b, newObj, q05, q00, q07, q09, q0a, St.freeze, q02, q08, q04, BEq.rfl, reduceIte, reduceCtorEq, Nat.reduceLT, Nat.reduceAdd, Nat.reduceSub, Nat.reduceMul, Nat.reduceBEq, Nat.reduceLeDiff, Int.reduceToNat, Int.reduceLE, hQ, frzC0, ↓q7v, hk, hn, hf]
    have : numB n = false := q22 fun h => by have := ((q8y n).1 h).2.1; rw [hf] at this; cases this
    exact ⟨fun _ => ⟨hl, this⟩, fun _ => this⟩
  by_cases hs : n.s = []
  · simp (maxSteps := 400000) only [↓preZ, postZ, coreZ, ↓preU, postU, D_all, F_all, unR, outL, onePV, binS, ↓binS, q03, ↓q03, q01, ↓q01, boxR, q0b, newObj, q05, q00, q07, q09, q0a, St.freeze, q02, q08, q04, BEq.rfl, reduceIte, reduceCtorEq, Nat.reduceLT, Nat.reduceAdd, Nat.reduceSub, Nat.reduceMul, Nat.reduceBEq, Nat.reduceLeDiff, Int.reduceToNat, Int.reduceLE, hQ, frzC0, ↓q7v, hk, hn, hs]
    have hf0 : figs [] = true := rfl
    have key := q8y n
    rw [if_pos hs, hs] at key
    have hlz : (([] : List UInt8).length : Int) = 0 := rfl
    simp only [hf0, ifR, hlz, Int.zero_add, List.length_nil]
    refine ⟨fun h0 => ⟨fun h => absurd h (by omega), fun _ => ⟨fun h => q22 fun hb => ?_, fun h1 => ⟨fun h => q22 fun hb => ?_, fun h2 => ⟨⟨by omega, by omega⟩, fun h => q22 fun hb => ?_, fun h3 => ?_⟩⟩⟩⟩, fun h0 => q22 fun hb => ?_⟩
    · have := key.1 hb; omega
    · have := key.1 hb; omega
    · have := key.1 hb; omega
    · refine ⟨fun hng => q22 fun hb => ?_, fun hng => ?_⟩
      · have := (key.1 hb).2.2.2.2.2.2.1; rw [hng] at this; cases this
      · by_cases hz : n.e = 0
        · rw [decide_eq_true hz, key]
          exact ⟨h0, hf0, by simp, by omega, by omega, by simp; omega, hng, hz⟩
        · rw [decide_eq_false hz]
          exact q22 fun hb => hz (key.1 hb).2.2.2.2.2.2.2
    · have := key.1 hb; omega
  · obtain ⟨c, t, hct⟩ : ∃ c t, n.s = c :: t := by
      cases h : n.s with
      | nil => exact absurd h hs
      | cons c t => exact ⟨c, t, rfl⟩
    have hlen : 0 < n.s.length := by rw [hct]; simp
    have g0 : n.s[0]? = some c := by rw [hct]; rfl
    have g1 : n.s[n.s.length - 1]? = some (n.s[n.s.length - 1]'(by omega)) := List.getElem?_eq_getElem (by omega)
    have t1 : ((n.s.length : Int) - 1).toNat = n.s.length - 1 := by omega
    have hl1 : n.s.getLast? = some (n.s[n.s.length - 1]'(by omega)) := by rw [List.getLast?_eq_getElem?, g1]
    have hh1 : n.s.head? = some c := by rw [hct]; rfl
    generalize n.s[n.s.length - 1]'(by omega) = d at g1 hl1
    have i1 : (-9223372036854775808 ≤ (n.s.length : Int) - 1 ∧ (n.s.length : Int) - 1 ≤ 9223372036854775807) = True := eq_true ⟨by omega, by omega⟩
    have z1 : (0 ≤ (n.s.length : Int) - 1) = True := eq_true (by omega)
    simp (maxSteps := 400000) only [↓preZ, postZ, coreZ, ↓preU, postU, D_all, F_all, unR, outL, onePV, binS, ↓binS, q03, ↓q03, q01, ↓q01, boxR, q0b, newObj, q05, q00, q07, q09, q0a, St.freeze, q02, q08, q04, BEq.rfl, reduceIte, reduceCtorEq, Nat.reduceLT, Nat.reduceAdd, Nat.reduceSub, Nat.reduceMul, Nat.reduceBEq, Nat.reduceLeDiff, Int.reduceToNat, Int.reduceLE, hQ, frzC0, ↓q7v, hk, hn, hs, hf, g0, t1, g1, i1, z1]
    have key := q8y n
    rw [if_neg hs, hh1, hl1] at key
    have e48 : ∀ x : UInt8, x = 48 ↔ x.toNat = 48 := fun x => ⟨fun h => by rw [h]; rfl, fun h => UInt8.toNat_inj.1 (by simpa using h)⟩
    refine ⟨fun h0 => ⟨hl, fun h => q22 fun hb => ?_, fun h1 => ⟨fun h => q22 fun hb => ?_, fun h2 => ⟨fun h => q22 fun hb => ?_, fun h3 => ⟨⟨by omega, by omega⟩, fun h => q22 fun hb => ?_, fun h4 => ⟨fun h => q22 fun hb => ?_, fun h5 => ?_⟩⟩⟩⟩⟩, fun h0 => q22 fun hb => ?_⟩
    · have := key.1 hb; omega
    · have := key.1 hb; omega
    · have := key.1 hb; omega
    · have := key.1 hb; omega
    · refine (key.1 hb).2.2.2.2.2.2.1 ?_
      rw [(e48 c).2 (by omega)]
    · by_cases hz : d.toNat = 48
      · have hz' : (d.toNat : Int) = 48 := by omega
        rw [decide_eq_true hz']
        refine q22 fun hb => (key.1 hb).2.2.2.2.2.2.2 ?_
        rw [(e48 d).2 hz]
      · have hz' : ¬ (d.toNat : Int) = 48 := by omega
        rw [decide_eq_false hz', Bool.not_false, key]
        refine ⟨h0, hf, by omega, by omega, by omega, by omega, fun h => ?_, fun h => ?_⟩
        · have := (e48 c).1 (by simpa using h); omega
        · exact hz ((e48 d).1 (by simpa using h))
    · exact h0 (key.1 hb).1
def q12 : Ctr := fun args objs K => match args with
  | [a0] => ofE encN a0 (HK.mk : HK fun n => (n.s.length ≤ 4611686018427387904) ∧ (n.kind = 3) ∧ (n.name = []) ∧ K (.bool (numB n)) objs 0)
  | _ => False
theorem qar : CtrOk Tryz.prog f_louperef01_Right (q12) := by
  intro args objs K h
  unfold q12 at h
  split at h
  · rename_i a0
    obtain ⟨n, rfl, h1, h2, h3, hk⟩ := h
    exact ⟨_, _, _, .pure _ rfl (numRight_spec n h1 h2 h3), hk⟩
  · exact h.elim
end Lp

/-! LpW16 -/

namespace Lp
open Go Go.Proofs
set_option maxHeartbeats 4000000
set_option maxRecDepth 20000
set_option linter.unusedSimpArgs false
def nextI (v : Vl) (i : Nat) : Int := match nxt v.length (v.drop i) 1 with
  | some c => (i + c : Nat)
  | none => -1
theorem q7w {v : Vl} {i : Nat} (h : (nxt v.length (v.drop i) 1).map (fun c => i + c) = none) : nextI v i = -1 := by
  unfold nextI
  cases hx : nxt v.length (v.drop i) 1 with
  | none => rfl
  | some c => rw [hx] at h; simp at h
theorem nextI_some {v : Vl} {i j : Nat} (h : (nxt v.length (v.drop i) 1).map (fun c => i + c) = some j) : nextI v i = j := by
  unfold nextI
  cases hx : nxt v.length (v.drop i) 1 with
  | none => rw [hx] at h; simp at h
  | some c => rw [hx] at h; simp only [Option.map_some, Option.some.injEq] at h; rw [← h]
theorem q8z (L : Nat) (v : Vl) : nxt L v 0 = some 0 := by cases v <;> rfl
theorem next_spec (v : Vl) (i : Nat) (hi : i ≤ v.length) (hl : v.length ≤ 1000000) : FnSpec Tryz.prog f_louperef02_Next [encV v, .int .i64 i] [] (.int .i64 (nextI v i)) [] := by
  refine k_louperef02_Next.pureG (T := tabL Tryz.prog []) 0 hD (q0g q0d) hmix (by decide) fun Q hQ => ?_
  try simp only [F_all]
  simp (maxSteps := 400000) only [↓preZ, postZ, coreZ, ↓preU, postU, D_all, F_all, unR, outL, onePV, binS, ↓binS, q03, ↓q03, q01, ↓q01, boxR, q0b, newObj, q05, q00, q07, q09, q0a, St.freeze, q02, q08, q04, BEq.rfl, reduceIte, reduceCtorEq, Nat.reduceLT, Nat.reduceAdd, Nat.reduceSub, Nat.reduceMul, Nat.reduceBEq, Nat.reduceLeDiff, Int.reduceToNat, Int.reduceLE, hQ, q41]
  refine q0t (fun m S => ∃ j k : Nat, j + m = v.length ∧ k ≤ 1 + j * 1000000 ∧ (nxt v.length (v.drop i) 1).map (fun c => i + c) = (nxt v.length (v.drop j) k).map (fun c => j + c) ∧
    S = ⟨tmA 41 [(0, encV v), (1, .int .i64 j), (5, .int .i64 k)], []⟩) (v.length - i) ⟨i, 1, by omega, by omega, rfl, ?_⟩ ?_
  · simp only [normR, keepR, Nat.reduceAdd, lkR, Nat.reduceBEq, F_all, List.map_nil]
    rfl
  rintro m S ⟨j, k, hjm, hk, hn, rfl⟩
  rcases Nat.lt_or_ge j v.length with h | h
  · have hg := List.getElem?_eq_getElem h
    have hd := List.drop_eq_getElem_cons h
    generalize v[j] = n at hg hd
    simp (maxSteps := 400000) only [↓preZ, postZ, coreZ, ↓preU, postU, D_all, F_all, unR, outL, onePV, binS, ↓binS, q03, ↓q03, q01, ↓q01, boxR, q0b, newObj, q05, q00, q07, q09, q0a, St.freeze, q02, q08, q04, BEq.rfl, reduceIte, reduceCtorEq, Nat.reduceLT, Nat.reduceAdd, Nat.reduceSub, Nat.reduceMul, Nat.reduceBEq, Nat.reduceLeDiff, Int.reduceToNat, Int.reduceLE, hQ, hg]
    refine ⟨fun hk0 => ⟨fun h' => absurd h' (by omega), fun _ => ⟨by omega, fun hm => ?_, fun hm => ⟨by omega, fun hm2 => ?_, fun hm2 => ?_⟩⟩⟩, fun hk0 => ?_⟩
    · obtain ⟨k, rfl⟩ : ∃ q, k = q + 1 := ⟨k - 1, by omega⟩
      rw [hd, nxt, if_pos (.inl hm)] at hn
      rw [q7w hn]
    · obtain ⟨k, rfl⟩ : ∃ q, k = q + 1 := ⟨k - 1, by omega⟩
      rw [hd, nxt, if_pos (.inr hm2)] at hn
      rw [q7w hn]
    · obtain ⟨k, rfl⟩ : ∃ q, k = q + 1 := ⟨k - 1, by omega⟩
      rw [hd, nxt, if_neg (by omega)] at hn
      have hk2 : (((k + 1 : Nat) : Int) - 1 + n.many) = ((k + n.many.toNat : Nat) : Int) := by omega
      refine ⟨⟨by omega, by omega⟩, by omega, ⟨by omega, by omega⟩, ⟨by omega, by omega⟩, m - 1, by omega, j + 1, k + n.many.toNat, by omega, by omega, ?_, ?_⟩
      · rw [hn]
        cases nxt v.length (v.drop (j + 1)) (k + n.many.toNat) with
        | none => rfl
        | some c => simp; omega
      · rw [hk2]; rfl
    · have hk1 : k = 0 := by omega
      subst hk1
      rw [q8z] at hn
      rw [nextI_some (j := j) (by simpa using hn)]
  · simp (maxSteps := 400000) only [↓preZ, postZ, coreZ, ↓preU, postU, D_all, F_all, unR, outL, onePV, binS, ↓binS, q03, ↓q03, q01, ↓q01, boxR, q0b, newObj, q05, q00, q07, q09, q0a, St.freeze, q02, q08, q04, BEq.rfl, reduceIte, reduceCtorEq, Nat.reduceLT, Nat.reduceAdd, Nat.reduceSub, Nat.reduceMul, Nat.reduceBEq, Nat.reduceLeDiff, Int.reduceToNat, Int.reduceLE, hQ]
    refine ⟨fun hk0 => ⟨fun _ => ?_, fun h' => absurd (by omega) h'⟩, fun hk0 => ?_⟩
    · obtain ⟨k, rfl⟩ : ∃ q, k = q + 1 := ⟨k - 1, by omega⟩
      rw [List.drop_eq_nil_of_le h] at hn
      simp only [nxt, Option.map_none] at hn
      rw [q7w hn]
    · have hk1 : k = 0 := by omega
      subst hk1
      rw [q8z] at hn
      rw [nextI_some (j := j) (by simpa using hn)]
theorem next_spec' (v : Vl) (i : Int) (h0 : 0 ≤ i) (hi : i.toNat ≤ v.length) (hl : v.length ≤ 1000000) : FnSpec Tryz.prog f_louperef02_Next [encV v, .int .i64 i] [] (.int .i64 (nextI v i.toNat)) [] := by
  have e : i = (i.toNat : Int) := by omega
  rw [e]
  exact next_spec v i.toNat hi hl
def q2p : Ctr := fun args objs K => match args with
  | [a0, .int .i64 i] => ofE encV a0 (HK.mk : HK fun v => (0 ≤ i) ∧ (i.toNat ≤ v.length) ∧ (v.length ≤ 1000000) ∧ K (.int .i64 (nextI v i.toNat)) objs 0)
  | _ => False
theorem ctrNext_ok : CtrOk Tryz.prog f_louperef02_Next (q2p) := by
  intro args objs K h
  unfold q2p at h
  split at h
  · rename_i a0 i
    obtain ⟨v, rfl, h1, h2, h3, hk⟩ := h
    exact ⟨_, _, _, .pure _ rfl (next_spec' v i h1 h2 h3), hk⟩
  · exact h.elim
end Lp

/-! LpW17 -/

namespace Lp
open Go Go.Proofs
set_option maxHeartbeats 4000000
set_option maxRecDepth 20000
set_option linter.unusedSimpArgs false
theorem plain_spec (n : Nd) (hl : n.s.length ≤ 4611686018427387904) : FnSpec Tryz.prog f_louperef02_plain [encN n] [] (.bool (q0m n)) [] := by
  refine k_louperef02_plain.pureG (T := tabL Tryz.prog [(f_louperef02_Utf, q1v), (f_louperef01_Right, q12)]) 0 hD (q0g (q0c qa3 (q0c qar q0d))) hmix (by decide) fun Q hQ => ?_
  try simp only [F_all]
  have h8 : n.kind = 0 ∨ n.kind = 1 ∨ n.kind = 2 ∨ n.kind = 3 ∨ n.kind = 4 ∨ n.kind = 5 ∨ n.kind = 6 ∨ (n.kind ≠ 0 ∧ n.kind ≠ 1 ∧ n.kind ≠ 2 ∧ n.kind ≠ 3 ∧ n.kind ≠ 4 ∧ n.kind ≠ 5 ∧ n.kind ≠ 6) := by omega
  rcases h8 with hk | hk | hk | hk | hk | hk | hk | ⟨k0, k1, k2, k3, k4, k5, k6⟩
  · simp (maxSteps := 400000) only [↓preZ, postZ, coreZ, ↓preU, postU, D_all, F_all, unR, outL, onePV, binS, ↓binS, q03, ↓q03, q01, ↓q01, boxR, q0b, newObj, q05, q00, q07, q09, q0a, St.freeze, q02, q08, q04, BEq.rfl, reduceIte, reduceCtorEq, Nat.reduceLT, Nat.reduceAdd, Nat.reduceSub, Nat.reduceMul, Nat.reduceBEq, Nat.reduceLeDiff, Int.reduceToNat, Int.reduceLE, hQ, q0k, ↓q1v, ↓q12, hk, Int.reduceEq]
    rw [Bool.eq_iff_iff]
    simp [q0m, hk, and_assoc]
  · simp (maxSteps := 400000) only [↓preZ, postZ, coreZ, ↓preU, postU, D_all, F_all, unR, outL, onePV, binS, ↓binS, q03, ↓q03, q01, ↓q01, boxR, q0b, newObj, q05, q00, q07, q09, q0a, St.freeze, q02, q08, q04, BEq.rfl, reduceIte, reduceCtorEq, Nat.reduceLT, Nat.reduceAdd, Nat.reduceSub, Nat.reduceMul, Nat.reduceBEq, Nat.reduceLeDiff, Int.reduceToNat, Int.reduceLE, hQ, q0k, ↓q1v, ↓q12, hk, Int.reduceEq]
    rw [Bool.eq_iff_iff]
    simp [q0m, hk, and_assoc]
  · simp (maxSteps := 400000) only [↓preZ, postZ, coreZ, ↓preU, postU, D_all, F_all, unR, outL, onePV, binS, ↓binS, q03, ↓q03, q01, ↓q01, boxR, q0b, newObj, q05, q00, q07, q09, q0a, St.freeze, q02, q08, q04, BEq.rfl, reduceIte, reduceCtorEq, Nat.reduceLT, Nat.reduceAdd, Nat.reduceSub, Nat.reduceMul, Nat.reduceBEq, Nat.reduceLeDiff, Int.reduceToNat, Int.reduceLE, hQ, q0k, ↓q1v, ↓q12, hk, Int.reduceEq]
    rw [Bool.eq_iff_iff]
    simp [q0m, hk, and_assoc]
  · simp (maxSteps := 400000) only [↓preZ, postZ, coreZ, ↓preU, postU, D_all, F_all, unR, outL, onePV, binS, ↓binS, q03, ↓q03, q01, ↓q01, boxR, q0b, newObj, q05, q00, q07, q09, q0a, St.freeze, q02, q08, q04, BEq.rfl, reduceIte, reduceCtorEq, Nat.reduceLT, Nat.reduceAdd, Nat.reduceSub, Nat.reduceMul, Nat.reduceBEq, Nat.reduceLeDiff, Int.reduceToNat, Int.reduceLE, hQ, q0k, ↓q1v, ↓q12, hk, Int.reduceEq]
    refine ⟨hl, ?_⟩
    simp [q0m, hk, numB]
  · simp (maxSteps := 400000) only [↓preZ, postZ, coreZ, ↓preU, postU, D_all, F_all, unR, outL, onePV, binS, ↓binS, q03, ↓q03, q01, ↓q01, boxR, q0b, newObj, q05, q00, q07, q09, q0a, St.freeze, q02, q08, q04, BEq.rfl, reduceIte, reduceCtorEq, Nat.reduceLT, Nat.reduceAdd, Nat.reduceSub, Nat.reduceMul, Nat.reduceBEq, Nat.reduceLeDiff, Int.reduceToNat, Int.reduceLE, hQ, q0k, ↓q1v, ↓q12, hk, Int.reduceEq]
    refine ⟨hl, ?_⟩
    cases hu : utf n.s
    · simp [ifP, q0m, hk, hu]
    · simp only [ifR]
      rw [Bool.eq_iff_iff]
      simp [q0m, hk, hu, and_assoc]
  · simp (maxSteps := 400000) only [↓preZ, postZ, coreZ, ↓preU, postU, D_all, F_all, unR, outL, onePV, binS, ↓binS, q03, ↓q03, q01, ↓q01, boxR, q0b, newObj, q05, q00, q07, q09, q0a, St.freeze, q02, q08, q04, BEq.rfl, reduceIte, reduceCtorEq, Nat.reduceLT, Nat.reduceAdd, Nat.reduceSub, Nat.reduceMul, Nat.reduceBEq, Nat.reduceLeDiff, Int.reduceToNat, Int.reduceLE, hQ, q0k, ↓q1v, ↓q12, hk, Int.reduceEq]
    refine ⟨fun hm => ?_, fun hm => ?_⟩
    · rw [Bool.eq_iff_iff]
      simp [q0m, hk, hm, and_assoc]
    · simp [q0m, hk, hm]
  · simp (maxSteps := 400000) only [↓preZ, postZ, coreZ, ↓preU, postU, D_all, F_all, unR, outL, onePV, binS, ↓binS, q03, ↓q03, q01, ↓q01, boxR, q0b, newObj, q05, q00, q07, q09, q0a, St.freeze, q02, q08, q04, BEq.rfl, reduceIte, reduceCtorEq, Nat.reduceLT, Nat.reduceAdd, Nat.reduceSub, Nat.reduceMul, Nat.reduceBEq, Nat.reduceLeDiff, Int.reduceToNat, Int.reduceLE, hQ, q0k, ↓q1v, ↓q12, hk, Int.reduceEq]
    refine ⟨fun hm => ?_, fun hm => ?_⟩
    · rw [Bool.eq_iff_iff]
      simp [q0m, hk, hm, and_assoc]
    · simp [q0m, hk, hm]
  · simp (maxSteps := 400000) only [↓preZ, postZ, coreZ, ↓preU, postU, D_all, F_all, unR, outL, onePV, binS, ↓binS, q03, ↓q03, q01, ↓q01, boxR, q0b, newObj, q05, q00, q07, q09, q0a, St.freeze, q02, q08, q04, BEq.rfl, reduceIte, reduceCtorEq, Nat.reduceLT, Nat.reduceAdd, Nat.reduceSub, Nat.reduceMul, Nat.reduceBEq, Nat.reduceLeDiff, Int.reduceToNat, Int.reduceLE, hQ, q0k, ↓q1v, ↓q12, k0, k1, k2, k3, k4, k5, k6]
    simp [q0m, k0, k1, k2, k3, k4, k5, k6]
def q5j : Ctr := fun args objs K => match args with
  | [a0] => ofE encN a0 (HK.mk : HK fun n => (n.s.length ≤ 4611686018427387904) ∧ K (.bool (q0m n)) objs 0)
  | _ => False
theorem ctrPlain_ok : CtrOk Tryz.prog f_louperef02_plain (q5j) := by
  intro args objs K h
  unfold q5j at h
  split at h
  · rename_i a0
    obtain ⟨n, rfl, h1, hk⟩ := h
    exact ⟨_, _, _, .pure _ rfl (plain_spec n h1), hk⟩
  · exact h.elim
end Lp
