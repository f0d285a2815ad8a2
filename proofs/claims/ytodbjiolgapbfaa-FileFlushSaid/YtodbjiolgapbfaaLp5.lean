/-
  Part 5 of what the statement rests on: LpU3, LpW40, LpW41, LpW42, LpW43, LpF1, LpF2, LpF3, LpW44, LpW45, LpW46, LpW47, LpW48, LpW49, LpF4. No condition.
-/
import Derived.Test.YtodbjiolgapbfaaLp4
import Derived.Shelf.Spec.SlicesInsertGrow
import Derived.Laws.CopyRow

set_option linter.all false

/-! LpU3 -/

namespace Lp
open Go Go.Proofs

def encF (f : Fl) : PV := .agg [.str f.name, .str f.s]
def encX (x : De) : PV := .agg [.int .i64 x.kind, .str x.name, .str x.s]
def encFs (l : List Fl) : PV := .sl 2 (l.map encF) none
def encXs (l : List De) : PV := .sl 3 (l.map encX) none
def encK (k : Dk) : PV := .agg [encFs k.l, encXs k.d]
def encQ (q : Sv) : PV := .agg [encFs q.d.l, encXs q.d.d, .str q.name, .str q.s, .int .i64 q.stop, .int .i64 q.n, .str q.other]

theorem hF : ∀ l, encFs l = .sl 2 (l.map encF) none := fun _ => rfl
theorem hX : ∀ l, encXs l = .sl 3 (l.map encX) none := fun _ => rfl

theorem encF_inj : ∀ a b, encF a = encF b → a = b := by
  intro a b h
  cases a; cases b
  simp only [encF, PV.agg.injEq, List.cons.injEq, PV.str.injEq, and_true] at h
  obtain ⟨rfl, rfl⟩ := h
  rfl
theorem encX_inj : ∀ a b, encX a = encX b → a = b := by
  intro a b h
  cases a; cases b
  simp only [encX, PV.agg.injEq, List.cons.injEq, PV.int.injEq, PV.str.injEq, true_and, and_true] at h
  obtain ⟨rfl, rfl, rfl⟩ := h
  rfl
theorem encFs_inj : ∀ a b, encFs a = encFs b → a = b := row_inj hF encF_inj
theorem encXs_inj : ∀ a b, encXs a = encXs b → a = b := row_inj hX encX_inj
theorem encK_inj : ∀ a b, encK a = encK b → a = b := by
  intro a b h
  cases a; cases b
  simp only [encK, PV.agg.injEq, List.cons.injEq, and_true] at h
  rw [encFs_inj _ _ h.1, encXs_inj _ _ h.2]
theorem encQ_inj : ∀ a b, encQ a = encQ b → a = b := by
  intro a b h
  obtain ⟨⟨al, ad⟩, a1, a2, a3, a4, a5⟩ := a
  obtain ⟨⟨bl, bd⟩, b1, b2, b3, b4, b5⟩ := b
  simp only [encQ, PV.agg.injEq, List.cons.injEq, PV.int.injEq, PV.str.injEq, true_and, and_true] at h
  obtain ⟨h1, h2, rfl, rfl, rfl, rfl, rfl⟩ := h
  rw [encFs_inj _ _ h1, encXs_inj _ _ h2]

theorem encR (objs : List Obj) (K : KT) :
    (∀ f, fieldAddrR D t_api_File (.addr (encF f)) 0 objs K = K (.addr (.str f.name)) objs 0) ∧
    (∀ f, fieldAddrR D t_api_File (.addr (encF f)) 1 objs K = K (.addr (.str f.s)) objs 0) ∧
    (∀ x, fieldAddrR D t_api_Deed (.addr (encX x)) 0 objs K = K (.addr (.int .i64 x.kind)) objs 0) ∧
    (∀ x, fieldAddrR D t_api_Deed (.addr (encX x)) 1 objs K = K (.addr (.str x.name)) objs 0) ∧
    (∀ x, fieldAddrR D t_api_Deed (.addr (encX x)) 2 objs K = K (.addr (.str x.s)) objs 0) ∧
    (∀ k, fieldAddrR D t_api_Disk (.addr (encK k)) 0 objs K = K (.addr (encFs k.l)) objs 0) ∧
    (∀ k, fieldAddrR D t_api_Disk (.addr (encK k)) 1 objs K = K (.addr (encXs k.d)) objs 0) ∧
    (∀ k, fieldR D t_api_Disk (encK k) 0 objs K = K (encFs k.l) objs 0) ∧
    (∀ k, fieldR D t_api_Disk (encK k) 1 objs K = K (encXs k.d) objs 0) ∧
    (∀ q, fieldAddrR D t_loupelaw23_SaveIn (.addr (encQ q)) 0 objs K = K (.addr (encK q.d)) objs 0) ∧
    (∀ q, fieldAddrR D t_loupelaw23_SaveIn (.addr (encQ q)) 1 objs K = K (.addr (.str q.name)) objs 0) ∧
    (∀ q, fieldAddrR D t_loupelaw23_SaveIn (.addr (encQ q)) 2 objs K = K (.addr (.str q.s)) objs 0) ∧
    (∀ q, fieldAddrR D t_loupelaw23_SaveIn (.addr (encQ q)) 3 objs K = K (.addr (.int .i64 q.stop)) objs 0) ∧
    (∀ q, fieldAddrR D t_loupelaw23_SaveIn (.addr (encQ q)) 4 objs K = K (.addr (.int .i64 q.n)) objs 0) ∧
    (∀ q, fieldAddrR D t_loupelaw23_SaveIn (.addr (encQ q)) 5 objs K = K (.addr (.str q.other)) objs 0) := by
  have a1 : ∀ l, (encFs l).isAgg = false := fun _ => rfl
  have a2 : ∀ l, (encXs l).isAgg = false := fun _ => rfl
  refine ⟨fun n => ?_, fun n => ?_, fun n => ?_, fun n => ?_, fun n => ?_, fun n => ?_, fun n => ?_, fun n => ?_, fun n => ?_, fun n => ?_, fun n => ?_, fun n => ?_, fun n => ?_, fun n => ?_, fun n => ?_⟩
  all_goals
    simp only [encF, encX, encK, encQ, a1, a2, fieldAddrR, fieldR, fieldOf, D_all, ↓exi, agR, subR, tmR, isR, alR, ne_eq, reduceCtorEq, not_false_eq_true, true_and, Bool.not_false, Bool.and_self, Nat.reduceAdd, Nat.reduceLeDiff, forall_const, false_implies]

theorem encC :
    (∀ f, (encF f).cells = [.str f.name, .str f.s]) ∧ (∀ f, (encF f).isAgg = true) ∧ (∀ f, (encF f).pure = true) ∧ (∀ d m O f, frz d m O (encF f) = encF f) ∧ (∀ d m O f, frzT d m O (encF f) = encF f) ∧
    (∀ f, (encX f).cells = [.int .i64 f.kind, .str f.name, .str f.s]) ∧ (∀ f, (encX f).isAgg = true) ∧ (∀ f, (encX f).pure = true) ∧ (∀ d m O f, frz d m O (encX f) = encX f) ∧ (∀ d m O f, frzT d m O (encX f) = encX f) ∧
    (∀ f, (encK f).cells = [encFs f.l, encXs f.d]) ∧ (∀ f, (encK f).isAgg = true) ∧ (∀ f, (encK f).pure = true) ∧ (∀ d m O f, frz d m O (encK f) = encK f) ∧ (∀ d m O f, frzT d m O (encK f) = encK f) ∧
    (∀ q, (encQ q).cells = [encFs q.d.l, encXs q.d.d, .str q.name, .str q.s, .int .i64 q.stop, .int .i64 q.n, .str q.other]) ∧ (∀ f, (encQ f).isAgg = true) ∧ (∀ f, (encQ f).pure = true) ∧ (∀ d m O f, frz d m O (encQ f) = encQ f) ∧ (∀ d m O f, frzT d m O (encQ f) = encQ f) :=
  ⟨fun _ => rfl, fun _ => rfl, fun _ => rfl, fun _ _ _ _ => rfl, fun _ _ _ _ => rfl, fun _ => rfl, fun _ => rfl, fun _ => rfl, fun _ _ _ _ => rfl, fun _ _ _ _ => rfl,
   fun _ => rfl, fun _ => rfl, fun _ => rfl, fun _ _ _ _ => rfl, fun _ _ _ _ => rfl, fun _ => rfl, fun _ => rfl, fun _ => rfl, fun _ _ _ _ => rfl, fun _ _ _ _ => rfl⟩

theorem eqOkF (a b : Fl) : EqOk Try.prog t_api_File (encF a).cells (encF b).cells :=
  eqOk_of (by kernel_rfl) (by kernel_rfl) (by kernel_rfl) (by
    have h : (Try.prog.fieldsOf t_api_File).toList.map (fun f => (f.name != "_", f.offset, Try.prog.underlying f.type)) = [(true, 0, some .string), (true, 1, some .string)] := by kernel_rfl
    generalize (Try.prog.fieldsOf t_api_File).toList = fs at h
    obtain _ | ⟨f0, _ | ⟨f1, _ | ⟨f2, fr⟩⟩⟩ := fs
    all_goals simp only [List.map_cons, List.map_nil, List.cons.injEq, Prod.mk.injEq, and_true, reduceCtorEq, and_false] at h
    obtain ⟨⟨a0, b0, c0⟩, ⟨a1, b1, c1⟩⟩ := h
    simp only [fitF, fitT, encF, PV.cells, a0, b0, c0, a1, b1, c1, Bool.and_true, BEq.rfl, Nat.zero_add])

theorem eqOkX (a b : De) : EqOk Try.prog t_api_Deed (encX a).cells (encX b).cells :=
  eqOk_of (by kernel_rfl) (by kernel_rfl) (by kernel_rfl) (by
    have h : (Try.prog.fieldsOf t_api_Deed).toList.map (fun f => (f.name != "_", f.offset, Try.prog.underlying f.type)) = [(true, 0, some (.int .i64)), (true, 1, some .string), (true, 2, some .string)] := by kernel_rfl
    generalize (Try.prog.fieldsOf t_api_Deed).toList = fs at h
    obtain _ | ⟨f0, _ | ⟨f1, _ | ⟨f2, _ | ⟨f3, fr⟩⟩⟩⟩ := fs
    all_goals simp only [List.map_cons, List.map_nil, List.cons.injEq, Prod.mk.injEq, and_true, reduceCtorEq, and_false] at h
    obtain ⟨⟨a0, b0, c0⟩, ⟨a1, b1, c1⟩, ⟨a2, b2, c2⟩⟩ := h
    simp only [fitF, fitT, encX, PV.cells, a0, b0, c0, a1, b1, c1, a2, b2, c2, Bool.and_true, BEq.rfl, decide_true, Nat.zero_add, Nat.reduceAdd])

theorem eqLF (a b : Fl) : eqL (encF a).cells (encF b).cells = some (decide (a = b)) := by
  cases a; cases b
  simp only [encF, PV.cells, eqL, eqS, Bool.and_true, Fl.mk.injEq, Option.some.injEq]
  rw [Bool.eq_iff_iff]
  simp

theorem eqLX (a b : De) : eqL (encX a).cells (encX b).cells = some (decide (a = b)) := by
  cases a; cases b
  simp only [encX, PV.cells, eqL, eqS, if_true, Bool.and_true, De.mk.injEq, Option.some.injEq]
  rw [Bool.eq_iff_iff]
  simp

theorem encEq (ti : TInfo) (K : PV → Prop) :
    (∀ a b, binR Try.prog ti t_api_File .eql (encF a) (encF b) K = K (.bool (decide (a = b)))) ∧
    (∀ a b, binR Try.prog ti t_api_File .neq (encF a) (encF b) K = K (.bool (!decide (a = b)))) ∧
    (∀ a b, binR Try.prog ti t_api_Deed .eql (encX a) (encX b) K = K (.bool (decide (a = b)))) ∧
    (∀ a b, binR Try.prog ti t_api_Deed .neq (encX a) (encX b) K = K (.bool (!decide (a = b)))) := by
  refine ⟨fun a b => ?_, fun a b => ?_, fun a b => ?_, fun a b => ?_⟩
  · show (EqOk Try.prog t_api_File (encF a).cells (encF b).cells ∧ ∃ r, eqL (encF a).cells (encF b).cells = some r ∧ K (.bool r)) = _
    rw [eqLF]; simp [eqOkF]
  · show (EqOk Try.prog t_api_File (encF a).cells (encF b).cells ∧ ∃ r, eqL (encF a).cells (encF b).cells = some r ∧ K (.bool (!r))) = _
    rw [eqLF]; simp [eqOkF]
  · show (EqOk Try.prog t_api_Deed (encX a).cells (encX b).cells ∧ ∃ r, eqL (encX a).cells (encX b).cells = some r ∧ K (.bool r)) = _
    rw [eqLX]; simp [eqOkX]
  · show (EqOk Try.prog t_api_Deed (encX a).cells (encX b).cells ∧ ∃ r, eqL (encX a).cells (encX b).cells = some r ∧ K (.bool (!r))) = _
    rw [eqLX]; simp [eqOkX]

/-- Structs written whole, and in part. -/
theorem encP :
    (∀ a b c d, (PV.agg [a, b]).putCells 0 [c, d] = .agg [c, d]) ∧ (∀ a b c x y z, (PV.agg [a, b, c]).putCells 0 [x, y, z] = .agg [x, y, z]) ∧
    (∀ a b c, (PV.agg [a, b]).putCells 0 [c] = .agg [c, b]) ∧ (∀ a b c, (PV.agg [a, b]).putCells 1 [c] = .agg [a, c]) ∧
    (∀ k c d, (encK k).putCells 0 [c, d] = .agg [c, d]) ∧ (∀ k c, (encK k).putCells 1 [c] = .agg [encFs k.l, c]) ∧ (∀ k c, (encK k).putCells 0 [c] = .agg [c, encXs k.d]) ∧
    (∀ f c d, (encF f).putCells 0 [c, d] = .agg [c, d]) ∧ (∀ f x y z, (encX f).putCells 0 [x, y, z] = .agg [x, y, z]) :=
  ⟨fun _ _ _ _ => rfl, fun _ _ _ _ _ _ => rfl, fun _ _ _ => rfl, fun _ _ _ => rfl, fun _ _ _ => rfl, fun _ _ => rfl, fun _ _ => rfl, fun _ _ _ => rfl, fun _ _ _ _ => rfl⟩

/-- Folded again. -/
theorem encO :
    (∀ a b, PV.agg [.str a, .str b] = encF ⟨a, b⟩) ∧ (∀ k a b, PV.agg [.int .i64 k, .str a, .str b] = encX ⟨k, a, b⟩) ∧ (∀ l d, PV.agg [encFs l, encXs d] = encK ⟨l, d⟩) ∧
    (∀ f0, PV.sl 2 [encF f0] none = encFs [f0]) ∧ (∀ x0, PV.sl 3 [encX x0] none = encXs [x0]) ∧ (∀ x0 x1 x2, PV.sl 3 [encX x0, encX x1, encX x2] none = encXs [x0, x1, x2]) :=
  ⟨fun _ _ => rfl, fun _ _ _ => rfl, fun _ _ => rfl, fun _ => rfl, fun _ => rfl, fun _ _ _ => rfl⟩

theorem etaR : (∀ k : Dk, Dk.mk k.l k.d = k) ∧ (∀ x : De, De.mk x.kind x.name x.s = x) ∧ (∀ f : Fl, Fl.mk f.name f.s = f) := ⟨fun _ => rfl, fun _ => rfl, fun _ => rfl⟩

/-- A disk without deeds, as it is built. -/
def encK0 (l : List Fl) : PV := .agg [encFs l, .sl 0 [] (some true)]
theorem encK0R : (∀ l, (encK0 l).cells = [encFs l, .sl 0 [] (some true)]) ∧ (∀ l, (encK0 l).isAgg = true) ∧ (∀ l, (encK0 l).pure = true) ∧ (∀ d m O l, frz d m O (encK0 l) = encK0 l) ∧ (∀ d m O l, frzT d m O (encK0 l) = encK0 l) ∧
    (∀ l, PV.agg [encFs l, .sl 0 [] (some true)] = encK0 l) :=
  ⟨fun _ => rfl, fun _ => rfl, fun _ => rfl, fun _ _ _ _ => rfl, fun _ _ _ _ => rfl, fun _ => rfl⟩

theorem encB (objs : List Obj) (K : KT) :
    (∀ a, buildR' D t_api_File [(0, .str a)] objs K = K (encF ⟨a, []⟩) objs 0) ∧
    (∀ a b, buildR' D t_api_File [(0, .str a), (1, .str b)] objs K = K (encF ⟨a, b⟩) objs 0) ∧
    (∀ k, buildR' D t_api_Deed [(0, .int .i64 k)] objs K = K (encX ⟨k, [], []⟩) objs 0) ∧
    (∀ k a, buildR' D t_api_Deed [(0, .int .i64 k), (1, .str a)] objs K = K (encX ⟨k, a, []⟩) objs 0) ∧
    (∀ k a b, buildR' D t_api_Deed [(0, .int .i64 k), (1, .str a), (2, .str b)] objs K = K (encX ⟨k, a, b⟩) objs 0) ∧
    (∀ l, buildR' D t_api_Disk [(0, encFs l)] objs K = K (encK0 l) objs 0) ∧
    (∀ l d, buildR' D t_api_Disk [(0, encFs l), (1, encXs d)] objs K = K (encK ⟨l, d⟩) objs 0) ∧
    (∀ l k v, buildR' D t_api_Disk [(0, encFs l), (1, .osl k v)] objs K = K (.agg [encFs l, .osl k v]) objs 0) := by
  have z1 : zeroElem (D t_api_File) = encF ⟨[], []⟩ := by kernel_rfl
  have a1 : (D t_api_File).agg = true := by kernel_rfl
  have z2 : zeroElem (D t_api_Deed) = encX ⟨0, [], []⟩ := by kernel_rfl
  have a2 : (D t_api_Deed).agg = true := by kernel_rfl
  have z3 : zeroElem (D t_api_Disk) = .agg [.sl 0 [] (some true), .sl 0 [] (some true)] := by kernel_rfl
  have a3 : (D t_api_Disk).agg = true := by kernel_rfl
  have s3 : ∀ l, (encFs l).cells = [encFs l] := fun _ => rfl
  have s4 : ∀ l, (encXs l).cells = [encXs l] := fun _ => rfl
  simp only [D_all] at z1 a1 z2 a2 z3 a3
  have p1 : ∀ l, partOk (encFs l) = true := fun _ => rfl
  have p2 : ∀ l, partOk (encXs l) = true := fun _ => rfl
  have p3 : ∀ cs, (PV.agg cs).cells = cs := fun _ => rfl
  have p4 : ∀ cs, (PV.agg cs).isAgg = true := fun _ => rfl
  refine ⟨fun a => ?_, fun a b => ?_, fun k => ?_, fun k a => ?_, fun k a b => ?_, fun l => ?_, fun l d => ?_, fun l k v => ?_⟩
  rotate_left 5
  · simp [buildR', buildR, a3, z3, s3, p1, p3, p4, D_all, fillR, encK0]
  · simp [buildR', buildR, a3, z3, s3, s4, p1, p2, p3, p4, D_all, fillR, encK]
  · have s5 : ∀ k v, (PV.osl k v).cells = [PV.osl k v] := fun _ _ => rfl
    have p5 : ∀ k v, partOk (.osl k v) = true := fun _ _ => rfl
    simp [buildR', buildR, a3, z3, s3, s5, p1, p3, p4, p5, D_all, fillR]
  all_goals
    simp [buildR', buildR, a1, z1, a2, z2, D_all, fillR, encF, encX, PV.isAgg, partOk, PV.cells, PV.storable, PV.solid, PV.pure]

theorem inF : Inert encF := by intro d n o x; cases d <;> rfl
theorem inX : Inert encX := by intro d n o x; cases d <;> rfl
theorem inK : Inert encK := by intro d n o x; cases d <;> rfl
theorem inK0 : Inert encK0 := by intro d n o x; cases d <;> rfl
theorem inQ : Inert encQ := by intro d n o x; cases d <;> rfl

/-- An owned row of deeds, frozen, whatever object it is. -/
theorem frzAt (d ty : Nat) (l : List De) (v k : Nat) (objs : List Obj) (hk : objs[k]? = some ⟨ty, 3, l.map encX, true, v⟩) : frz (d + 1) 0 objs (.osl k v) = encXs l := by
  simp only [frz, Nat.not_lt_zero, if_false, frzI, hk, Nat.zero_le, decide_true, Bool.and_self, BEq.rfl, if_true]
  rw [hX]
  congr 1
  rw [List.map_map]
  exact List.map_congr_left fun x _ => inX d 0 objs x

theorem frzX : (∀ (d ty : Nat) (l : List De) (v : Nat) (o1 o2 o3 : Obj) (rest : List Obj), frz (d + 1) 0 (o1 :: o2 :: o3 :: ⟨ty, 3, l.map encX, true, v⟩ :: rest) (.osl 3 v) = encXs l) ∧
    (∀ (d ty : Nat) (l : List De) (v : Nat) (o1 o2 o3 o4 : Obj) (rest : List Obj), frz (d + 1) 0 (o1 :: o2 :: o3 :: o4 :: ⟨ty, 3, l.map encX, true, v⟩ :: rest) (.osl 4 v) = encXs l) :=
  ⟨fun d ty l v o1 o2 o3 rest => frzAt d ty l v 3 _ rfl, fun d ty l v o1 o2 o3 o4 rest => frzAt d ty l v 4 _ rfl⟩

/-- Boxes, frozen. -/
theorem bx1 {α : Type} {enc : α → PV} (h : Inert enc) (ty : TypeId) (sz : Nat) (x : α) : frz 1 0 [⟨ty, sz, [enc x], true, 1⟩] (.optr 0 1 0 0) = .addr (enc x) := by
  simp only [frz, Nat.not_lt_zero, if_false, frzI, List.getElem?_cons_zero, Nat.zero_le, decide_true, Bool.and_self, BEq.rfl, if_true]
  rw [h]
theorem bx20 {α β : Type} {enc : α → PV} {enc' : β → PV} (h : Inert enc) (ty ty' : TypeId) (sz sz' : Nat) (x : α) (y : β) : frz 1 0 [⟨ty, sz, [enc x], true, 1⟩, ⟨ty', sz', [enc' y], true, 1⟩] (.optr 0 1 0 0) = .addr (enc x) := by
  simp only [frz, Nat.not_lt_zero, if_false, frzI, List.getElem?_cons_zero, Nat.zero_le, decide_true, Bool.and_self, BEq.rfl, if_true]
  rw [h]
theorem bx21 {α β : Type} {enc : α → PV} {enc' : β → PV} (h : Inert enc') (ty ty' : TypeId) (sz sz' : Nat) (x : α) (y : β) : frz 1 0 [⟨ty, sz, [enc x], true, 1⟩, ⟨ty', sz', [enc' y], true, 1⟩] (.optr 1 1 0 0) = .addr (enc' y) := by
  simp only [frz, Nat.not_lt_zero, if_false, frzI, List.getElem?_cons_zero, List.getElem?_cons_succ, Nat.zero_le, decide_true, Bool.and_self, BEq.rfl, if_true]
  rw [h]

/-- Zero values. -/
theorem encZ : (PV.ofV (.agg ⟨[.string ⟨⟨[]⟩⟩, .string ⟨⟨[]⟩⟩]⟩) = encF ⟨[], []⟩) ∧ (PV.ofV (.agg ⟨[.int .i64 0, .string ⟨⟨[]⟩⟩, .string ⟨⟨[]⟩⟩]⟩) = encX ⟨0, [], []⟩) ∧
    (PV.ofV (.agg ⟨[.slice none 0 0, .slice none 0 0]⟩) = .agg [.sl 0 [] (some true), .sl 0 [] (some true)]) ∧ (∀ cs, (PV.agg cs).cells = cs) ∧ (∀ cs, (PV.agg cs).isAgg = true) :=
  ⟨rfl, rfl, rfl, fun _ => rfl, fun _ => rfl⟩

/-- A row with one more behind. -/
theorem encS : (∀ (l : List Fl) (x : Fl), l.map encF ++ [encF x] = (l ++ [x]).map encF) ∧ (∀ (l : List De) (x : De), l.map encX ++ [encX x] = (l ++ [x]).map encX) ∧
    (∀ (l : List De) (x y z : De), l.map encX ++ [encX x, encX y, encX z] = (l ++ [x, y, z]).map encX) :=
  ⟨fun _ _ => by simp, fun _ _ => by simp, fun _ _ _ _ => by simp⟩

/-- Parts of what a function hands back. -/
theorem exT (objs : List Obj) (K : KT) : (∀ a b, extractR (.tup [a, b]) 0 objs K = K a objs 0) ∧ (∀ a b, extractR (.tup [a, b]) 1 objs K = K b objs 0) ∧
    (∀ a b c, extractR (.tup [a, b, c]) 0 objs K = K a objs 0) ∧ (∀ a b c, extractR (.tup [a, b, c]) 1 objs K = K b objs 0) ∧ (∀ a b c, extractR (.tup [a, b, c]) 2 objs K = K c objs 0) := by
  refine ⟨fun a b => ?_, fun a b => ?_, fun a b c => ?_, fun a b c => ?_, fun a b c => ?_⟩
  all_goals simp [extractR]

/-! ### All rules on these, in bundles -/

theorem preF :
    type_of% exT ∧ type_of% (rowS hF) ∧ type_of% (rowS hX) ∧
    type_of% (ofE_inj encF_inj) ∧ type_of% (ofE_inj encX_inj) ∧ type_of% (ofE_inj encFs_inj) ∧ type_of% (ofE_inj encXs_inj) ∧ type_of% (ofE_inj encK_inj) ∧ type_of% (ofE_inj encQ_inj) :=
  ⟨exT, rowS hF, rowS hX, ofE_inj encF_inj, ofE_inj encX_inj, ofE_inj encFs_inj, ofE_inj encXs_inj, ofE_inj encK_inj, ofE_inj encQ_inj⟩

theorem postF :
    type_of% exT ∧ type_of% encS ∧ type_of% encZ ∧ type_of% encR ∧ type_of% encC ∧ type_of% encEq ∧ type_of% encP ∧ type_of% encO ∧ type_of% encB ∧ type_of% encK0R ∧
    type_of% (rowR hF) ∧ type_of% (rowR hX) ∧ type_of% (rowS hF) ∧ type_of% (rowS hX) ∧ type_of% (rowC hF) ∧ type_of% (rowC hX) ∧
    type_of% (ofE_inj encF_inj) ∧ type_of% (ofE_inj encX_inj) ∧ type_of% (ofE_inj encFs_inj) ∧ type_of% (ofE_inj encXs_inj) ∧ type_of% (ofE_inj encK_inj) ∧ type_of% (ofE_inj encQ_inj) ∧
    type_of% (frzRow hF inF) ∧ type_of% (frzRow hX inX) ∧ type_of% frzX ∧
    type_of% (rowA (enc := encF) (sz := 2) (fun _ => rfl) (fun _ => rfl)) ∧
    type_of% (rowA (enc := encX) (sz := 3) (fun _ => rfl) (fun _ => rfl)) ∧
    type_of% (fun (l : List Fl) (k : Nat) => neO (encFs l) rfl k) ∧
    type_of% (fun (l : List De) (k : Nat) => neO (encXs l) rfl k) ∧
    type_of% (fun (z : Nat) (xs : List PV) (q : Option Bool) (k : Nat) => neO (.sl z xs q) rfl k) ∧
    type_of% (bx1 inF) ∧ type_of% (bx1 inX) ∧ type_of% (bx1 inK) ∧ type_of% (bx1 inQ) ∧ type_of% (bx20 (enc' := encK) inK) ∧ type_of% (bx21 (enc := encK) inK) ∧ type_of% (bx20 (enc' := encX) inK) ∧ type_of% (bx21 (enc := encK) inX) :=
  ⟨exT, encS, encZ, encR, encC, encEq, encP, encO, encB, encK0R, rowR hF, rowR hX, rowS hF, rowS hX, rowC hF, rowC hX,
   ofE_inj encF_inj, ofE_inj encX_inj, ofE_inj encFs_inj, ofE_inj encXs_inj, ofE_inj encK_inj, ofE_inj encQ_inj, frzRow hF inF, frzRow hX inX, frzX,
   rowA (enc := encF) (sz := 2) (fun _ => rfl) (fun _ => rfl), rowA (enc := encX) (sz := 3) (fun _ => rfl) (fun _ => rfl),
   fun (l : List Fl) (k : Nat) => neO (encFs l) rfl k, fun (l : List De) (k : Nat) => neO (encXs l) rfl k, fun (z : Nat) (xs : List PV) (q : Option Bool) (k : Nat) => neO (.sl z xs q) rfl k,
   bx1 inF, bx1 inX, bx1 inK, bx1 inQ, bx20 (enc' := encK) inK, bx21 (enc := encK) inK, bx20 (enc' := encX) inK, bx21 (enc := encK) inX⟩

end Lp

/-! LpW40 -/

namespace Lp
open Go Go.Proofs

set_option maxHeartbeats 4000000
set_option maxRecDepth 20000
set_option linter.unusedSimpArgs false

theorem name_spec (s : List UInt8) (hs : s.length ≤ 4611686018427387904) : FnSpec Try.prog f_louperef23_name [.str s] [] (.bool (nameOk s)) [] := by
  refine k_louperef23_name.pureG (T := tabL Try.prog []) 0 hD (kOk_tabL tabOk_nil) hmix (by decide) fun Q hQ => ?_
  try simp only [F_all]
  by_cases h1 : 1 ≤ s.length
  · have h1' : (1 ≤ (s.length : Int)) = True := eq_true (by omega)
    by_cases h2 : s.length ≤ 40
    · have h2' : ((s.length : Int) ≤ 40) = True := eq_true (by omega)
      have hr : nameOk s = true := decide_eq_true ⟨h1, h2⟩
      simp (maxSteps := 400000) only [↓preZ, postZ, coreZ, ↓preF, postF, D_all, F_all, unR, outL, onePV, binS, ↓binS, boundR, ↓boundR, fieldOf, ↓fieldOf, boxR, allocR, newObj, zeroElem, buildSliceR, appendR, setAll, storeR, St.freeze, makeSliceR, minmaxR, makeFuncR, BEq.rfl, reduceIte, reduceCtorEq, Nat.reduceLT, Nat.reduceAdd, Nat.reduceSub, Nat.reduceMul, Nat.reduceBEq, Nat.reduceLeDiff, Int.reduceToNat, Int.reduceLE, hQ, c_louperef23_name, h1', h2', hr]
    · have h2' : ((s.length : Int) ≤ 40) = False := eq_false (by omega)
      have hr : nameOk s = false := decide_eq_false fun h => h2 h.2
      simp (maxSteps := 400000) only [↓preZ, postZ, coreZ, ↓preF, postF, D_all, F_all, unR, outL, onePV, binS, ↓binS, boundR, ↓boundR, fieldOf, ↓fieldOf, boxR, allocR, newObj, zeroElem, buildSliceR, appendR, setAll, storeR, St.freeze, makeSliceR, minmaxR, makeFuncR, BEq.rfl, reduceIte, reduceCtorEq, Nat.reduceLT, Nat.reduceAdd, Nat.reduceSub, Nat.reduceMul, Nat.reduceBEq, Nat.reduceLeDiff, Int.reduceToNat, Int.reduceLE, hQ, c_louperef23_name, h1', h2', hr]
  · have h1' : (1 ≤ (s.length : Int)) = False := eq_false (by omega)
    have hr : nameOk s = false := decide_eq_false fun h => h1 h.1
    simp (maxSteps := 400000) only [↓preZ, postZ, coreZ, ↓preF, postF, D_all, F_all, unR, outL, onePV, binS, ↓binS, boundR, ↓boundR, fieldOf, ↓fieldOf, boxR, allocR, newObj, zeroElem, buildSliceR, appendR, setAll, storeR, St.freeze, makeSliceR, minmaxR, makeFuncR, BEq.rfl, reduceIte, reduceCtorEq, Nat.reduceLT, Nat.reduceAdd, Nat.reduceSub, Nat.reduceMul, Nat.reduceBEq, Nat.reduceLeDiff, Int.reduceToNat, Int.reduceLE, hQ, c_louperef23_name, h1', hr]

def ctrNameR : Ctr := fun args objs K => match args with
  | [.str s] => (s.length ≤ 4611686018427387904) ∧ K (.bool (nameOk s)) objs 0
  | _ => False
theorem ctrNameR_ok : CtrOk Try.prog f_louperef23_name (ctrNameR) := by
  intro args objs K h
  unfold ctrNameR at h
  split at h
  · rename_i s
    obtain ⟨h1, hk⟩ := h
    exact ⟨_, _, _, .pure _ rfl (name_spec s h1), hk⟩
  · exact h.elim

theorem isName_spec (s : List UInt8) (hs : s.length ≤ 4611686018427387904) : FnSpec Try.prog f_file_isName [.str s] [] (.bool (nameOk s)) [] := by
  refine k_file_isName.pureG (T := tabL Try.prog []) 0 hD (kOk_tabL tabOk_nil) hmix (by decide) fun Q hQ => ?_
  try simp only [F_all]
  by_cases h1 : s = []
  · have h1' : (s = []) = True := eq_true h1
    have hr : nameOk s = false := decide_eq_false fun h => by rw [h1] at h; simp at h
    simp (maxSteps := 400000) only [↓preZ, postZ, coreZ, ↓preF, postF, D_all, F_all, unR, outL, onePV, binS, ↓binS, boundR, ↓boundR, fieldOf, ↓fieldOf, boxR, allocR, newObj, zeroElem, buildSliceR, appendR, setAll, storeR, St.freeze, makeSliceR, minmaxR, makeFuncR, BEq.rfl, reduceIte, reduceCtorEq, Nat.reduceLT, Nat.reduceAdd, Nat.reduceSub, Nat.reduceMul, Nat.reduceBEq, Nat.reduceLeDiff, Int.reduceToNat, Int.reduceLE, hQ, c_file_isName, h1', hr]
  · have h1' : (s = []) = False := eq_false h1
    have hp : 1 ≤ s.length := List.length_pos_iff.2 h1
    by_cases h2 : s.length ≤ 40
    · have h2' : ((s.length : Int) ≤ 40) = True := eq_true (by omega)
      have hr : nameOk s = true := decide_eq_true ⟨hp, h2⟩
      simp (maxSteps := 400000) only [↓preZ, postZ, coreZ, ↓preF, postF, D_all, F_all, unR, outL, onePV, binS, ↓binS, boundR, ↓boundR, fieldOf, ↓fieldOf, boxR, allocR, newObj, zeroElem, buildSliceR, appendR, setAll, storeR, St.freeze, makeSliceR, minmaxR, makeFuncR, BEq.rfl, reduceIte, reduceCtorEq, Nat.reduceLT, Nat.reduceAdd, Nat.reduceSub, Nat.reduceMul, Nat.reduceBEq, Nat.reduceLeDiff, Int.reduceToNat, Int.reduceLE, hQ, c_file_isName, h1', h2', hr]
    · have h2' : ((s.length : Int) ≤ 40) = False := eq_false (by omega)
      have hr : nameOk s = false := decide_eq_false fun h => h2 h.2
      simp (maxSteps := 400000) only [↓preZ, postZ, coreZ, ↓preF, postF, D_all, F_all, unR, outL, onePV, binS, ↓binS, boundR, ↓boundR, fieldOf, ↓fieldOf, boxR, allocR, newObj, zeroElem, buildSliceR, appendR, setAll, storeR, St.freeze, makeSliceR, minmaxR, makeFuncR, BEq.rfl, reduceIte, reduceCtorEq, Nat.reduceLT, Nat.reduceAdd, Nat.reduceSub, Nat.reduceMul, Nat.reduceBEq, Nat.reduceLeDiff, Int.reduceToNat, Int.reduceLE, hQ, c_file_isName, h1', h2', hr]

def ctrIsName : Ctr := fun args objs K => match args with
  | [.str s] => (s.length ≤ 4611686018427387904) ∧ K (.bool (nameOk s)) objs 0
  | _ => False
theorem ctrIsName_ok : CtrOk Try.prog f_file_isName (ctrIsName) := by
  intro args objs K h
  unfold ctrIsName at h
  split at h
  · rename_i s
    obtain ⟨h1, hk⟩ := h
    exact ⟨_, _, _, .pure _ rfl (isName_spec s h1), hk⟩
  · exact h.elim

theorem tf (p : Prop) : p = True ∨ p = False := by
  by_cases h : p
  · exact .inl (eq_true h)
  · exact .inr (eq_false h)

/-- A deed whose texts are no longer than any text is. -/
def okX (x : De) : Prop := x.name.length ≤ 4611686018427387904 ∧ x.s.length ≤ 4611686018427387904

theorem mayR_spec (x : De) (hx : okX x) : FnSpec Try.prog f_louperef23_may [encX x] [] (.bool (mayD x)) [] := by
  refine k_louperef23_may.pureG (T := tabL Try.prog [(f_louperef23_name, ctrNameR)]) 0 hD (kOk_tabL (tabOk_cons ctrNameR_ok tabOk_nil)) hmix (by decide) fun Q hQ => ?_
  try simp only [F_all]
  simp (maxSteps := 400000) only [↓preZ, postZ, coreZ, ↓preF, postF, D_all, F_all, unR, outL, onePV, binS, ↓binS, boundR, ↓boundR, fieldOf, ↓fieldOf, boxR, allocR, newObj, zeroElem, buildSliceR, appendR, setAll, storeR, St.freeze, makeSliceR, minmaxR, makeFuncR, BEq.rfl, reduceIte, reduceCtorEq, Nat.reduceLT, Nat.reduceAdd, Nat.reduceSub, Nat.reduceMul, Nat.reduceBEq, Nat.reduceLeDiff, Int.reduceToNat, Int.reduceLE, hQ, c_louperef23_may]
  refine wpc_weak _ (Weak.freeze 1 0 (Nat.zero_le _) _) ?_
  obtain ⟨k, nm, s⟩ := x
  obtain ⟨hn, hs⟩ := hx
  simp only [] at hn hs
  have hn' : (nm.length ≤ 4611686018427387904) = True := eq_true hn
  have hs' : (s.length ≤ 4611686018427387904) = True := eq_true hs
  by_cases k0 : k = 0
  · subst k0
    have hr : mayD ⟨0, nm, s⟩ = (nameOk nm && decide (s = [])) := rfl
    cases h1 : nameOk nm <;> rcases tf (s = []) with h2 | h2
    all_goals simp (maxSteps := 400000) only [↓preZ, postZ, coreZ, ↓preF, postF, D_all, F_all, unR, outL, onePV, binS, ↓binS, boundR, ↓boundR, fieldOf, ↓fieldOf, boxR, allocR, newObj, zeroElem, buildSliceR, appendR, setAll, storeR, St.freeze, makeSliceR, minmaxR, makeFuncR, BEq.rfl, reduceIte, reduceCtorEq, Nat.reduceLT, Nat.reduceAdd, Nat.reduceSub, Nat.reduceMul, Nat.reduceBEq, Nat.reduceLeDiff, Int.reduceToNat, Int.reduceLE, hQ, ↓ctrNameR, hn', hs', h1, h2, hr]
  by_cases k3 : k = 3
  · subst k3
    have hr : mayD ⟨3, nm, s⟩ = (nameOk nm && decide (s = [])) := rfl
    cases h1 : nameOk nm <;> rcases tf (s = []) with h2 | h2
    all_goals simp (maxSteps := 400000) only [↓preZ, postZ, coreZ, ↓preF, postF, D_all, F_all, unR, outL, onePV, binS, ↓binS, boundR, ↓boundR, fieldOf, ↓fieldOf, boxR, allocR, newObj, zeroElem, buildSliceR, appendR, setAll, storeR, St.freeze, makeSliceR, minmaxR, makeFuncR, BEq.rfl, reduceIte, reduceCtorEq, Nat.reduceLT, Nat.reduceAdd, Nat.reduceSub, Nat.reduceMul, Nat.reduceBEq, Nat.reduceLeDiff, Int.reduceToNat, Int.reduceLE, hQ, ↓ctrNameR, hn', hs', h1, h2, hr, Int.reduceEq]
  by_cases k1 : k = 1
  · subst k1
    have hr : mayD ⟨1, nm, s⟩ = nameOk nm := rfl
    simp (maxSteps := 400000) only [↓preZ, postZ, coreZ, ↓preF, postF, D_all, F_all, unR, outL, onePV, binS, ↓binS, boundR, ↓boundR, fieldOf, ↓fieldOf, boxR, allocR, newObj, zeroElem, buildSliceR, appendR, setAll, storeR, St.freeze, makeSliceR, minmaxR, makeFuncR, BEq.rfl, reduceIte, reduceCtorEq, Nat.reduceLT, Nat.reduceAdd, Nat.reduceSub, Nat.reduceMul, Nat.reduceBEq, Nat.reduceLeDiff, Int.reduceToNat, Int.reduceLE, hQ, ↓ctrNameR, hn', hs', hr, Int.reduceEq]
  by_cases k2 : k = 2
  · subst k2
    have hr : mayD ⟨2, nm, s⟩ = (nameOk nm && nameOk s) := rfl
    cases h1 : nameOk nm <;> cases h2 : nameOk s
    all_goals simp (maxSteps := 400000) only [↓preZ, postZ, coreZ, ↓preF, postF, D_all, F_all, unR, outL, onePV, binS, ↓binS, boundR, ↓boundR, fieldOf, ↓fieldOf, boxR, allocR, newObj, zeroElem, buildSliceR, appendR, setAll, storeR, St.freeze, makeSliceR, minmaxR, makeFuncR, BEq.rfl, reduceIte, reduceCtorEq, Nat.reduceLT, Nat.reduceAdd, Nat.reduceSub, Nat.reduceMul, Nat.reduceBEq, Nat.reduceLeDiff, Int.reduceToNat, Int.reduceLE, hQ, ↓ctrNameR, hn', hs', h1, h2, hr, Int.reduceEq]
  by_cases k4 : k = 4
  · subst k4
    have hr : mayD ⟨4, nm, s⟩ = (decide (nm = []) && decide (s = [])) := rfl
    rcases tf (nm = []) with h1 | h1 <;> rcases tf (s = []) with h2 | h2
    all_goals simp (maxSteps := 400000) only [↓preZ, postZ, coreZ, ↓preF, postF, D_all, F_all, unR, outL, onePV, binS, ↓binS, boundR, ↓boundR, fieldOf, ↓fieldOf, boxR, allocR, newObj, zeroElem, buildSliceR, appendR, setAll, storeR, St.freeze, makeSliceR, minmaxR, makeFuncR, BEq.rfl, reduceIte, reduceCtorEq, Nat.reduceLT, Nat.reduceAdd, Nat.reduceSub, Nat.reduceMul, Nat.reduceBEq, Nat.reduceLeDiff, Int.reduceToNat, Int.reduceLE, hQ, ↓ctrNameR, hn', hs', h1, h2, hr, Int.reduceEq]
  have hr : mayD ⟨k, nm, s⟩ = false := by simp [mayD, k0, k1, k2, k3, k4]
  have e0 := eq_false k0
  have e1 := eq_false k1
  have e2 := eq_false k2
  have e3 := eq_false k3
  have e4 := eq_false k4
  simp (maxSteps := 400000) only [↓preZ, postZ, coreZ, ↓preF, postF, D_all, F_all, unR, outL, onePV, binS, ↓binS, boundR, ↓boundR, fieldOf, ↓fieldOf, boxR, allocR, newObj, zeroElem, buildSliceR, appendR, setAll, storeR, St.freeze, makeSliceR, minmaxR, makeFuncR, BEq.rfl, reduceIte, reduceCtorEq, Nat.reduceLT, Nat.reduceAdd, Nat.reduceSub, Nat.reduceMul, Nat.reduceBEq, Nat.reduceLeDiff, Int.reduceToNat, Int.reduceLE, hQ, ↓ctrNameR, hn', hs', hr, e0, e1, e2, e3, e4]

def ctrMayR : Ctr := fun args objs K => match args with
  | [a0] => ofE encX a0 (HK.mk : HK fun x => (okX x) ∧ K (.bool (mayD x)) objs 0)
  | _ => False
theorem ctrMayR_ok : CtrOk Try.prog f_louperef23_may (ctrMayR) := by
  intro args objs K h
  unfold ctrMayR at h
  split at h
  · rename_i a0
    obtain ⟨x, rfl, h1, hk⟩ := h
    exact ⟨_, _, _, .pure _ rfl (mayR_spec x h1), hk⟩
  · exact h.elim

theorem may_spec (x : De) (hx : okX x) : FnSpec Try.prog f_file_may [encX x] [] (.bool (mayD x)) [] := by
  refine k_file_may.pureG (T := tabL Try.prog [(f_file_isName, ctrIsName)]) 0 hD (kOk_tabL (tabOk_cons ctrIsName_ok tabOk_nil)) hmix (by decide) fun Q hQ => ?_
  try simp only [F_all]
  simp (maxSteps := 400000) only [↓preZ, postZ, coreZ, ↓preF, postF, D_all, F_all, unR, outL, onePV, binS, ↓binS, boundR, ↓boundR, fieldOf, ↓fieldOf, boxR, allocR, newObj, zeroElem, buildSliceR, appendR, setAll, storeR, St.freeze, makeSliceR, minmaxR, makeFuncR, BEq.rfl, reduceIte, reduceCtorEq, Nat.reduceLT, Nat.reduceAdd, Nat.reduceSub, Nat.reduceMul, Nat.reduceBEq, Nat.reduceLeDiff, Int.reduceToNat, Int.reduceLE, hQ, c_file_may]
  refine wpc_weak _ (Weak.freeze 1 0 (Nat.zero_le _) _) ?_
  obtain ⟨k, nm, s⟩ := x
  obtain ⟨hn, hs⟩ := hx
  simp only [] at hn hs
  have hn' : (nm.length ≤ 4611686018427387904) = True := eq_true hn
  have hs' : (s.length ≤ 4611686018427387904) = True := eq_true hs
  by_cases k0 : k = 0
  · subst k0
    have hr : mayD ⟨0, nm, s⟩ = (nameOk nm && decide (s = [])) := rfl
    cases h1 : nameOk nm <;> rcases tf (s = []) with h2 | h2
    all_goals simp (maxSteps := 400000) only [↓preZ, postZ, coreZ, ↓preF, postF, D_all, F_all, unR, outL, onePV, binS, ↓binS, boundR, ↓boundR, fieldOf, ↓fieldOf, boxR, allocR, newObj, zeroElem, buildSliceR, appendR, setAll, storeR, St.freeze, makeSliceR, minmaxR, makeFuncR, BEq.rfl, reduceIte, reduceCtorEq, Nat.reduceLT, Nat.reduceAdd, Nat.reduceSub, Nat.reduceMul, Nat.reduceBEq, Nat.reduceLeDiff, Int.reduceToNat, Int.reduceLE, hQ, ↓ctrIsName, hn', hs', h1, h2, hr]
  by_cases k3 : k = 3
  · subst k3
    have hr : mayD ⟨3, nm, s⟩ = (nameOk nm && decide (s = [])) := rfl
    cases h1 : nameOk nm <;> rcases tf (s = []) with h2 | h2
    all_goals simp (maxSteps := 400000) only [↓preZ, postZ, coreZ, ↓preF, postF, D_all, F_all, unR, outL, onePV, binS, ↓binS, boundR, ↓boundR, fieldOf, ↓fieldOf, boxR, allocR, newObj, zeroElem, buildSliceR, appendR, setAll, storeR, St.freeze, makeSliceR, minmaxR, makeFuncR, BEq.rfl, reduceIte, reduceCtorEq, Nat.reduceLT, Nat.reduceAdd, Nat.reduceSub, Nat.reduceMul, Nat.reduceBEq, Nat.reduceLeDiff, Int.reduceToNat, Int.reduceLE, hQ, ↓ctrIsName, hn', hs', h1, h2, hr, Int.reduceEq]
  by_cases k1 : k = 1
  · subst k1
    have hr : mayD ⟨1, nm, s⟩ = nameOk nm := rfl
    simp (maxSteps := 400000) only [↓preZ, postZ, coreZ, ↓preF, postF, D_all, F_all, unR, outL, onePV, binS, ↓binS, boundR, ↓boundR, fieldOf, ↓fieldOf, boxR, allocR, newObj, zeroElem, buildSliceR, appendR, setAll, storeR, St.freeze, makeSliceR, minmaxR, makeFuncR, BEq.rfl, reduceIte, reduceCtorEq, Nat.reduceLT, Nat.reduceAdd, Nat.reduceSub, Nat.reduceMul, Nat.reduceBEq, Nat.reduceLeDiff, Int.reduceToNat, Int.reduceLE, hQ, ↓ctrIsName, hn', hs', hr, Int.reduceEq]
  by_cases k2 : k = 2
  · subst k2
    have hr : mayD ⟨2, nm, s⟩ = (nameOk nm && nameOk s) := rfl
    cases h1 : nameOk nm <;> cases h2 : nameOk s
    all_goals simp (maxSteps := 400000) only [↓preZ, postZ, coreZ, ↓preF, postF, D_all, F_all, unR, outL, onePV, binS, ↓binS, boundR, ↓boundR, fieldOf, ↓fieldOf, boxR, allocR, newObj, zeroElem, buildSliceR, appendR, setAll, storeR, St.freeze, makeSliceR, minmaxR, makeFuncR, BEq.rfl, reduceIte, reduceCtorEq, Nat.reduceLT, Nat.reduceAdd, Nat.reduceSub, Nat.reduceMul, Nat.reduceBEq, Nat.reduceLeDiff, Int.reduceToNat, Int.reduceLE, hQ, ↓ctrIsName, hn', hs', h1, h2, hr, Int.reduceEq]
  by_cases k4 : k = 4
  · subst k4
    have hr : mayD ⟨4, nm, s⟩ = (decide (nm = []) && decide (s = [])) := rfl
    have he : ((⟨4, nm, s⟩ : De) = ⟨4, [], []⟩) = (nm = [] ∧ s = []) := by simp
    rcases tf (nm = []) with h1 | h1 <;> rcases tf (s = []) with h2 | h2
    all_goals simp (maxSteps := 400000) only [↓preZ, postZ, coreZ, ↓preF, postF, D_all, F_all, unR, outL, onePV, binS, ↓binS, boundR, ↓boundR, fieldOf, ↓fieldOf, boxR, allocR, newObj, zeroElem, buildSliceR, appendR, setAll, storeR, St.freeze, makeSliceR, minmaxR, makeFuncR, BEq.rfl, reduceIte, reduceCtorEq, Nat.reduceLT, Nat.reduceAdd, Nat.reduceSub, Nat.reduceMul, Nat.reduceBEq, Nat.reduceLeDiff, Int.reduceToNat, Int.reduceLE, hQ, ↓ctrIsName, hn', hs', he, h1, h2, hr, Int.reduceEq]
  have hr : mayD ⟨k, nm, s⟩ = false := by simp [mayD, k0, k1, k2, k3, k4]
  have e0 := eq_false k0
  have e1 := eq_false k1
  have e2 := eq_false k2
  have e3 := eq_false k3
  have e4 := eq_false k4
  simp (maxSteps := 400000) only [↓preZ, postZ, coreZ, ↓preF, postF, D_all, F_all, unR, outL, onePV, binS, ↓binS, boundR, ↓boundR, fieldOf, ↓fieldOf, boxR, allocR, newObj, zeroElem, buildSliceR, appendR, setAll, storeR, St.freeze, makeSliceR, minmaxR, makeFuncR, BEq.rfl, reduceIte, reduceCtorEq, Nat.reduceLT, Nat.reduceAdd, Nat.reduceSub, Nat.reduceMul, Nat.reduceBEq, Nat.reduceLeDiff, Int.reduceToNat, Int.reduceLE, hQ, ↓ctrIsName, hn', hs', hr, e0, e1, e2, e3, e4]

def ctrMay : Ctr := fun args objs K => match args with
  | [a0] => ofE encX a0 (HK.mk : HK fun x => (okX x) ∧ K (.bool (mayD x)) objs 0)
  | _ => False
theorem ctrMay_ok : CtrOk Try.prog f_file_may (ctrMay) := by
  intro args objs K h
  unfold ctrMay at h
  split at h
  · rename_i a0
    obtain ⟨x, rfl, h1, hk⟩ := h
    exact ⟨_, _, _, .pure _ rfl (may_spec x h1), hk⟩
  · exact h.elim

theorem needs_spec (x : De) : FnSpec Try.prog f_louperef23_needs [encX x] [] (.bool (needsD x)) [] := by
  refine k_louperef23_needs.pureG (T := tabL Try.prog []) 0 hD (kOk_tabL tabOk_nil) hmix (by decide) fun Q hQ => ?_
  try simp only [F_all]
  simp (maxSteps := 400000) only [↓preZ, postZ, coreZ, ↓preF, postF, D_all, F_all, unR, outL, onePV, binS, ↓binS, boundR, ↓boundR, fieldOf, ↓fieldOf, boxR, allocR, newObj, zeroElem, buildSliceR, appendR, setAll, storeR, St.freeze, makeSliceR, minmaxR, makeFuncR, BEq.rfl, reduceIte, reduceCtorEq, Nat.reduceLT, Nat.reduceAdd, Nat.reduceSub, Nat.reduceMul, Nat.reduceBEq, Nat.reduceLeDiff, Int.reduceToNat, Int.reduceLE, hQ, c_louperef23_needs]
  refine wpc_weak _ (Weak.freeze 1 0 (Nat.zero_le _) _) ?_
  obtain ⟨k, nm, s⟩ := x
  have hr : needsD ⟨k, nm, s⟩ = decide (k = 1 ∨ k = 2 ∨ k = 3) := rfl
  rcases tf (k = 1) with h1 | h1 <;> rcases tf (k = 2) with h2 | h2 <;> rcases tf (k = 3) with h3 | h3
  all_goals simp (maxSteps := 400000) only [↓preZ, postZ, coreZ, ↓preF, postF, D_all, F_all, unR, outL, onePV, binS, ↓binS, boundR, ↓boundR, fieldOf, ↓fieldOf, boxR, allocR, newObj, zeroElem, buildSliceR, appendR, setAll, storeR, St.freeze, makeSliceR, minmaxR, makeFuncR, BEq.rfl, reduceIte, reduceCtorEq, Nat.reduceLT, Nat.reduceAdd, Nat.reduceSub, Nat.reduceMul, Nat.reduceBEq, Nat.reduceLeDiff, Int.reduceToNat, Int.reduceLE, hQ, h1, h2, h3, hr, or_false, false_or]

def ctrNeeds : Ctr := fun args objs K => match args with
  | [a0] => ofE encX a0 (HK.mk : HK fun x => K (.bool (needsD x)) objs 0)
  | _ => False
theorem ctrNeeds_ok : CtrOk Try.prog f_louperef23_needs (ctrNeeds) := by
  intro args objs K h
  unfold ctrNeeds at h
  split at h
  · rename_i a0
    obtain ⟨x, rfl, hk⟩ := h
    exact ⟨_, _, _, .pure _ rfl (needs_spec x), hk⟩
  · exact h.elim

theorem isNaN_str_spec (x : List UInt8) : FnSpec Try.prog f_cmp_isNaN_string_ [.str x] [] (.bool false) [] := by
  refine k_cmp_isNaN_string_.pureG (T := tabL Try.prog []) 0 hD (kOk_tabL tabOk_nil) hmix (by decide) fun Q hQ => ?_
  try simp only [F_all]
  simp (maxSteps := 400000) only [↓preZ, postZ, coreZ, ↓preF, postF, D_all, F_all, unR, outL, onePV, binS, ↓binS, boundR, ↓boundR, fieldOf, ↓fieldOf, boxR, allocR, newObj, zeroElem, buildSliceR, appendR, setAll, storeR, St.freeze, makeSliceR, minmaxR, makeFuncR, BEq.rfl, reduceIte, reduceCtorEq, Nat.reduceLT, Nat.reduceAdd, Nat.reduceSub, Nat.reduceMul, Nat.reduceBEq, Nat.reduceLeDiff, Int.reduceToNat, Int.reduceLE, hQ, c_cmp_isNaN_string_]

def ctrNaNs : Ctr := fun args objs K => match args with
  | [.str x] => K (.bool false) objs 0
  | _ => False
theorem ctrNaNs_ok : CtrOk Try.prog f_cmp_isNaN_string_ (ctrNaNs) := by
  intro args objs K h
  unfold ctrNaNs at h
  split at h
  · rename_i x
    have hk := h
    exact ⟨_, _, _, .pure _ rfl (isNaN_str_spec x), hk⟩
  · exact h.elim

theorem compare_str_spec (x y : List UInt8) : FnSpec Try.prog f_cmp_Compare_string_ [.str x, .str y] [] (.int .i64 (cmpS x y)) [] := by
  refine k_cmp_Compare_string_.pureG (T := tabL Try.prog [(f_cmp_isNaN_string_, ctrNaNs)]) 0 hD (kOk_tabL (tabOk_cons ctrNaNs_ok tabOk_nil)) hmix (by decide) fun Q hQ => ?_
  try simp only [F_all]
  have hr : cmpS x y = if Op.bytesLess x y = true then -1 else if x = y then 0 else 1 := rfl
  cases h1 : Op.bytesLess x y <;> rcases tf (x = y) with h2 | h2
  all_goals simp (maxSteps := 400000) only [↓preZ, postZ, coreZ, ↓preF, postF, D_all, F_all, unR, outL, onePV, binS, ↓binS, boundR, ↓boundR, fieldOf, ↓fieldOf, boxR, allocR, newObj, zeroElem, buildSliceR, appendR, setAll, storeR, St.freeze, makeSliceR, minmaxR, makeFuncR, BEq.rfl, reduceIte, reduceCtorEq, Nat.reduceLT, Nat.reduceAdd, Nat.reduceSub, Nat.reduceMul, Nat.reduceBEq, Nat.reduceLeDiff, Int.reduceToNat, Int.reduceLE, hQ, c_cmp_Compare_string_, ↓ctrNaNs, h1, h2, hr]

def ctrCmpT : Ctr := fun args objs K => match args with
  | [.str x, .str y] => K (.int .i64 (cmpS x y)) objs 0
  | _ => False
theorem ctrCmpT_ok : CtrOk Try.prog f_cmp_Compare_string_ (ctrCmpT) := by
  intro args objs K h
  unfold ctrCmpT at h
  split at h
  · rename_i x y
    have hk := h
    exact ⟨_, _, _, .pure _ rfl (compare_str_spec x y), hk⟩
  · exact h.elim

theorem byName_spec (f : Fl) (y : List UInt8) : FnSpec Try.prog f_file_byName [encF f, .str y] [] (.int .i64 (cmpS f.name y)) [] := by
  refine k_file_byName.pureG (T := tabL Try.prog [(f_cmp_Compare_string_, ctrCmpT)]) 0 hD (kOk_tabL (tabOk_cons ctrCmpT_ok tabOk_nil)) hmix (by decide) fun Q hQ => ?_
  try simp only [F_all]
  simp (maxSteps := 400000) only [↓preZ, postZ, coreZ, ↓preF, postF, D_all, F_all, unR, outL, onePV, binS, ↓binS, boundR, ↓boundR, fieldOf, ↓fieldOf, boxR, allocR, newObj, zeroElem, buildSliceR, appendR, setAll, storeR, St.freeze, makeSliceR, minmaxR, makeFuncR, BEq.rfl, reduceIte, reduceCtorEq, Nat.reduceLT, Nat.reduceAdd, Nat.reduceSub, Nat.reduceMul, Nat.reduceBEq, Nat.reduceLeDiff, Int.reduceToNat, Int.reduceLE, hQ, c_file_byName]
  refine wpc_weak _ (Weak.freeze 1 0 (Nat.zero_le _) _) ?_
  simp (maxSteps := 400000) only [↓preZ, postZ, coreZ, ↓preF, postF, D_all, F_all, unR, outL, onePV, binS, ↓binS, boundR, ↓boundR, fieldOf, ↓fieldOf, boxR, allocR, newObj, zeroElem, buildSliceR, appendR, setAll, storeR, St.freeze, makeSliceR, minmaxR, makeFuncR, BEq.rfl, reduceIte, reduceCtorEq, Nat.reduceLT, Nat.reduceAdd, Nat.reduceSub, Nat.reduceMul, Nat.reduceBEq, Nat.reduceLeDiff, Int.reduceToNat, Int.reduceLE, hQ, ↓ctrCmpT]

def ctrByName : Ctr := fun args objs K => match args with
  | [a0, .str y] => ofE encF a0 (HK.mk : HK fun f => K (.int .i64 (cmpS f.name y)) objs 0)
  | _ => False
theorem ctrByName_ok : CtrOk Try.prog f_file_byName (ctrByName) := by
  intro args objs K h
  unfold ctrByName at h
  split at h
  · rename_i a0 y
    obtain ⟨f, rfl, hk⟩ := h
    exact ⟨_, _, _, .pure _ rfl (byName_spec f y), hk⟩
  · exact h.elim

end Lp

/-! LpW41 -/

namespace Lp
open Go Go.Proofs

set_option maxHeartbeats 4000000
set_option maxRecDepth 20000
set_option linter.unusedSimpArgs false

/-- The first file of a name; below 0: none. -/
def idxF (l : List Fl) (s : List UInt8) : Int := match l.findIdx? fun f => decide (f.name = s) with
  | some i => i
  | none => -1

theorem idxF_none {l : List Fl} {s : List UInt8} (h : ∀ (j : Nat) (f : Fl), l[j]? = some f → f.name ≠ s) : idxF l s = -1 := by
  have : l.findIdx? (fun f => decide (f.name = s)) = none := by
    rw [List.findIdx?_eq_none_iff]
    intro f hf
    obtain ⟨j, hj, rfl⟩ := List.mem_iff_getElem.1 hf
    exact decide_eq_false (h j _ (List.getElem?_eq_getElem hj))
  simp [idxF, this]

theorem idxF_some {l : List Fl} {s : List UInt8} {i : Nat} {f : Fl} (hi : l[i]? = some f) (hn : f.name = s) (h : ∀ (j : Nat) (f : Fl), j < i → l[j]? = some f → f.name ≠ s) : idxF l s = i := by
  have hlt := (List.getElem?_eq_some_iff.1 hi).1
  have : l.findIdx? (fun f => decide (f.name = s)) = some i := by
    rw [List.findIdx?_eq_some_iff_getElem]
    refine ⟨hlt, ?_, fun j hj => ?_⟩
    · rw [(List.getElem?_eq_some_iff.1 hi).2]; exact decide_eq_true hn
    · have := h j _ hj (List.getElem?_eq_getElem (by omega))
      simpa using this
  simp [idxF, this]

theorem find_spec (l : List Fl) (s : List UInt8) (hl : l.length ≤ 4611686018427387904) : FnSpec Try.prog f_louperef23_Find [encFs l, .str s] [] (.int .i64 (idxF l s)) [] := by
  refine k_louperef23_Find.pureG (T := tabL Try.prog []) 0 hD (kOk_tabL tabOk_nil) hmix (by decide) fun Q hQ => ?_
  try simp only [F_all]
  simp (maxSteps := 400000) only [↓preZ, postZ, coreZ, ↓preF, postF, D_all, F_all, unR, outL, onePV, binS, ↓binS, boundR, ↓boundR, fieldOf, ↓fieldOf, boxR, allocR, newObj, zeroElem, buildSliceR, appendR, setAll, storeR, St.freeze, makeSliceR, minmaxR, makeFuncR, BEq.rfl, reduceIte, reduceCtorEq, Nat.reduceLT, Nat.reduceAdd, Nat.reduceSub, Nat.reduceMul, Nat.reduceBEq, Nat.reduceLeDiff, Int.reduceToNat, Int.reduceLE, hQ, c_louperef23_Find]
  refine wpc_loop (fun m S => ∃ i : Nat, i + m = l.length ∧ (∀ (j : Nat) (f : Fl), j < i → l[j]? = some f → f.name ≠ s) ∧ S = ⟨tmA 20 [(0, encFs l), (1, .str s), (5, .int .i64 i)], []⟩) l.length ⟨0, by omega, fun j f h => absurd h (by omega), ?_⟩ ?_
  · simp only [normR, keepR, Nat.reduceAdd, lkR, Nat.reduceBEq, F_all, List.map_nil]
    rfl
  rintro m S ⟨i, him, hj, rfl⟩
  have zi : (0 ≤ (i : Int)) = True := eq_true (by omega)
  rcases Nat.lt_or_ge i l.length with h | h
  rotate_left 1
  · have hlt : ((i : Int) < (l.length : Int)) = False := eq_false (by omega)
    have hr := idxF_none (l := l) (s := s) fun j f hf => hj j f (by have := (List.getElem?_eq_some_iff.1 hf).1; omega) hf
    simp (maxSteps := 400000) only [↓preZ, postZ, coreZ, ↓preF, postF, D_all, F_all, unR, outL, onePV, binS, ↓binS, boundR, ↓boundR, fieldOf, ↓fieldOf, boxR, allocR, newObj, zeroElem, buildSliceR, appendR, setAll, storeR, St.freeze, makeSliceR, minmaxR, makeFuncR, BEq.rfl, reduceIte, reduceCtorEq, Nat.reduceLT, Nat.reduceAdd, Nat.reduceSub, Nat.reduceMul, Nat.reduceBEq, Nat.reduceLeDiff, Int.reduceToNat, Int.reduceLE, hQ, hlt, hr]
  have hlt : ((i : Int) < (l.length : Int)) = True := eq_true (by omega)
  have ga := List.getElem?_eq_getElem h
  generalize l[i] = x at ga
  rcases tf (x.name = s) with hx | hx
  · have hr := idxF_some ga (of_eq_true hx) hj
    simp (maxSteps := 400000) only [↓preZ, postZ, coreZ, ↓preF, postF, D_all, F_all, unR, outL, onePV, binS, ↓binS, boundR, ↓boundR, fieldOf, ↓fieldOf, boxR, allocR, newObj, zeroElem, buildSliceR, appendR, setAll, storeR, St.freeze, makeSliceR, minmaxR, makeFuncR, BEq.rfl, reduceIte, reduceCtorEq, Nat.reduceLT, Nat.reduceAdd, Nat.reduceSub, Nat.reduceMul, Nat.reduceBEq, Nat.reduceLeDiff, Int.reduceToNat, Int.reduceLE, hQ, hlt, zi, ga, hx, hr]
  · simp (maxSteps := 400000) only [↓preZ, postZ, coreZ, ↓preF, postF, D_all, F_all, unR, outL, onePV, binS, ↓binS, boundR, ↓boundR, fieldOf, ↓fieldOf, boxR, allocR, newObj, zeroElem, buildSliceR, appendR, setAll, storeR, St.freeze, makeSliceR, minmaxR, makeFuncR, BEq.rfl, reduceIte, reduceCtorEq, Nat.reduceLT, Nat.reduceAdd, Nat.reduceSub, Nat.reduceMul, Nat.reduceBEq, Nat.reduceLeDiff, Int.reduceToNat, Int.reduceLE, hQ, hlt, zi, ga, hx]
    refine ⟨⟨by omega, by omega⟩, m - 1, by omega, i + 1, by omega, ?_, rfl⟩
    intro j f hji hf
    by_cases hjj : j = i
    · subst hjj; rw [ga] at hf; cases hf; exact of_eq_false hx
    · exact hj j f (by omega) hf

def ctrFindR : Ctr := fun args objs K => match args with
  | [a0, .str s] => ofE encFs a0 (HK.mk : HK fun l => (l.length ≤ 4611686018427387904) ∧ K (.int .i64 (idxF l s)) objs 0)
  | _ => False
theorem ctrFindR_ok : CtrOk Try.prog f_louperef23_Find (ctrFindR) := by
  intro args objs K h
  unfold ctrFindR at h
  split at h
  · rename_i a0 s
    obtain ⟨l, rfl, h1, hk⟩ := h
    exact ⟨_, _, _, .pure _ rfl (find_spec l s h1), hk⟩
  · exact h.elim

theorem drpF_snoc (l : List Fl) (x : Fl) (s : List UInt8) : drpF (l ++ [x]) s = if x.name = s then drpF l s else drpF l s ++ [x] := by
  simp only [drpF, List.filter_append]
  by_cases h : x.name = s <;> simp [h]

theorem drpF_length (l : List Fl) (s : List UInt8) : (drpF l s).length ≤ l.length := List.length_filter_le ..

theorem without_spec (l : List Fl) (s : List UInt8) (hl : l.length ≤ 1000000) : FnSpec Try.prog f_louperef23_without [encFs l, .str s] [] (encFs (drpF l s)) [] := by
  refine k_louperef23_without.pureG (T := tabL Try.prog []) 1 hD (kOk_tabL tabOk_nil) hmix (by decide) fun Q hQ => ?_
  try simp only [F_all]
  simp (maxSteps := 400000) only [↓preZ, postZ, coreZ, ↓preF, postF, D_all, F_all, unR, outL, onePV, binS, ↓binS, boundR, ↓boundR, fieldOf, ↓fieldOf, boxR, allocR, newObj, zeroElem, buildSliceR, appendR, setAll, storeR, St.freeze, makeSliceR, minmaxR, makeFuncR, BEq.rfl, reduceIte, reduceCtorEq, Nat.reduceLT, Nat.reduceAdd, Nat.reduceSub, Nat.reduceMul, Nat.reduceBEq, Nat.reduceLeDiff, Int.reduceToNat, Int.reduceLE, hQ, c_louperef23_without]
  refine wpc_loop (fun m S => ∃ i ver : Nat, i + m = l.length ∧ S = ⟨tmA 29 [(0, encFs l), (1, .str s), (5, .osl 0 ver), (6, .int .i64 i)], [⟨t_api_File, 2, (drpF (l.take i) s).map encF, true, ver⟩]⟩) l.length ⟨0, 1, by omega, ?_⟩ ?_
  · simp only [normR, keepR, Nat.reduceAdd, lkR, Nat.reduceBEq, F_all, List.map_nil]
    rfl
  rintro m S ⟨i, ver, him, rfl⟩
  rcases Nat.lt_or_ge i l.length with h | h
  rotate_left 1
  · have hlt : ((i : Int) < (l.length : Int)) = False := eq_false (by omega)
    simp (maxSteps := 400000) only [↓preZ, postZ, coreZ, ↓preF, postF, D_all, F_all, unR, outL, onePV, binS, ↓binS, boundR, ↓boundR, fieldOf, ↓fieldOf, boxR, allocR, newObj, zeroElem, buildSliceR, appendR, setAll, storeR, St.freeze, makeSliceR, minmaxR, makeFuncR, BEq.rfl, reduceIte, reduceCtorEq, Nat.reduceLT, Nat.reduceAdd, Nat.reduceSub, Nat.reduceMul, Nat.reduceBEq, Nat.reduceLeDiff, Int.reduceToNat, Int.reduceLE, hQ, hlt]
    rw [List.take_of_length_le h]
  have hlt : ((i : Int) < (l.length : Int)) = True := eq_true (by omega)
  have ga := List.getElem?_eq_getElem h
  have htk : l.take (i + 1) = l.take i ++ [l[i]] := by rw [List.take_add_one, ga]; rfl
  generalize l[i] = x at ga htk
  have zi : (0 ≤ (i : Int)) = True := eq_true (by omega)
  have hll := drpF_length (l.take i) s
  have htl : (l.take i).length = i := by simp; omega
  have hds := drpF_snoc (l.take i) x s
  rcases tf (x.name = s) with hx | hx
  · simp (maxSteps := 400000) only [↓preZ, postZ, coreZ, ↓preF, postF, D_all, F_all, unR, outL, onePV, binS, ↓binS, boundR, ↓boundR, fieldOf, ↓fieldOf, boxR, allocR, newObj, zeroElem, buildSliceR, appendR, setAll, storeR, St.freeze, makeSliceR, minmaxR, makeFuncR, BEq.rfl, reduceIte, reduceCtorEq, Nat.reduceLT, Nat.reduceAdd, Nat.reduceSub, Nat.reduceMul, Nat.reduceBEq, Nat.reduceLeDiff, Int.reduceToNat, Int.reduceLE, hQ, hlt, zi, ga, hx]
    refine ⟨⟨by omega, by omega⟩, m - 1, by omega, i + 1, ver, by omega, ?_⟩
    rw [htk, hds, if_pos (of_eq_true hx)]
    rfl
  · simp (maxSteps := 400000) only [↓preZ, postZ, coreZ, ↓preF, postF, D_all, F_all, unR, outL, onePV, binS, ↓binS, boundR, ↓boundR, fieldOf, ↓fieldOf, boxR, allocR, newObj, zeroElem, buildSliceR, appendR, setAll, storeR, St.freeze, makeSliceR, minmaxR, makeFuncR, BEq.rfl, reduceIte, reduceCtorEq, Nat.reduceLT, Nat.reduceAdd, Nat.reduceSub, Nat.reduceMul, Nat.reduceBEq, Nat.reduceLeDiff, Int.reduceToNat, Int.reduceLE, hQ, hlt, zi, ga, hx]
    refine ⟨by omega, by omega, ⟨by omega, by omega⟩, m - 1, by omega, i + 1, ver + 1, by omega, ?_⟩
    rw [htk, hds, if_neg (of_eq_false hx)]
    simp

def ctrWithout : Ctr := fun args objs K => match args with
  | [a0, .str s] => ofE encFs a0 (HK.mk : HK fun l => (l.length ≤ 1000000) ∧ K (encFs (drpF l s)) objs 0)
  | _ => False
theorem ctrWithout_ok : CtrOk Try.prog f_louperef23_without (ctrWithout) := by
  intro args objs K h
  unfold ctrWithout at h
  split at h
  · rename_i a0 s
    obtain ⟨l, rfl, h1, hk⟩ := h
    exact ⟨_, _, _, .pure _ rfl (without_spec l s h1), hk⟩
  · exact h.elim

theorem lay_less {p : List Fl} {x : Fl} (h : ∀ a ∈ p, Op.bytesLess a.name x.name = true) (r : List Fl) : layF (p ++ r) x = p ++ layF r x := by
  induction p with
  | nil => rfl
  | cons a p ih =>
    simp only [List.cons_append, layF]
    rw [if_pos (h a (by simp)), ih fun b hb => h b (by simp [hb])]

theorem lay_snoc {p : List Fl} {x b : Fl} (h : ∃ a ∈ p, Op.bytesLess x.name a.name = true) : layF (p ++ [b]) x = layF p x ++ [b] := by
  induction p with
  | nil => obtain ⟨a, ha, _⟩ := h; simp at ha
  | cons a p ih =>
    simp only [List.cons_append, layF]
    split
    · rename_i h1
      obtain ⟨c, hc, h2⟩ := h
      rcases List.mem_cons.1 hc with rfl | hc
      · rw [bl_asymm _ _ h1] at h2; cases h2
      · rw [ih ⟨c, hc, h2⟩]; rfl
    · split <;> rfl

theorem drpF_ne {l : List Fl} {s : List UInt8} {f : Fl} (h : f ∈ drpF l s) : f.name ≠ s := by
  simp only [drpF, List.mem_filter, Bool.not_eq_true', decide_eq_false_iff_not] at h
  exact h.2

theorem with_spec (l : List Fl) (x : Fl) (hl : l.length ≤ 999999) : FnSpec Try.prog f_louperef23_with [encFs l, encF x] [] (encFs (layF (drpF l x.name) x)) [] := by
  refine k_louperef23_with.pureG (T := tabL Try.prog [(f_louperef23_without, ctrWithout)]) 1 hD (kOk_tabL (tabOk_cons ctrWithout_ok tabOk_nil)) hmix (by decide) fun Q hQ => ?_
  try simp only [F_all]
  simp (maxSteps := 400000) only [↓preZ, postZ, coreZ, ↓preF, postF, D_all, F_all, unR, outL, onePV, binS, ↓binS, boundR, ↓boundR, fieldOf, ↓fieldOf, boxR, allocR, newObj, zeroElem, buildSliceR, appendR, setAll, storeR, St.freeze, makeSliceR, minmaxR, makeFuncR, BEq.rfl, reduceIte, reduceCtorEq, Nat.reduceLT, Nat.reduceAdd, Nat.reduceSub, Nat.reduceMul, Nat.reduceBEq, Nat.reduceLeDiff, Int.reduceToNat, Int.reduceLE, hQ, c_louperef23_with]
  refine wpc_weak _ (Weak.freeze 1 0 (Nat.zero_le _) _) ?_
  have hl' : (l.length ≤ 1000000) = True := eq_true (by omega)
  have hd := drpF_length l x.name
  have hne : ∀ f ∈ drpF l x.name, f.name ≠ x.name := fun f hf => drpF_ne hf
  generalize hless : drpF l x.name = less at hd hne
  simp (maxSteps := 400000) only [↓preZ, postZ, coreZ, ↓preF, postF, D_all, F_all, unR, outL, onePV, binS, ↓binS, boundR, ↓boundR, fieldOf, ↓fieldOf, boxR, allocR, newObj, zeroElem, buildSliceR, appendR, setAll, storeR, St.freeze, makeSliceR, minmaxR, makeFuncR, BEq.rfl, reduceIte, reduceCtorEq, Nat.reduceLT, Nat.reduceAdd, Nat.reduceSub, Nat.reduceMul, Nat.reduceBEq, Nat.reduceLeDiff, Int.reduceToNat, Int.reduceLE, hQ, ↓ctrWithout, hl', hless]
  refine wpc_loop (fun m S => ∃ (i ver : Nat) (b : Bool) (out : List Fl), i + m = less.length ∧ out.length ≤ i + 1 ∧
    (b = false → (∀ a ∈ less.take i, Op.bytesLess a.name x.name = true) ∧ out = less.take i) ∧ (b = true → (∃ a ∈ less.take i, Op.bytesLess x.name a.name = true) ∧ out = layF (less.take i) x) ∧
    S = ⟨tmA 50 [(3, .addr (encF x)), (5, encFs less), (6, .osl 0 ver), (7, .bool b), (8, .int .i64 i)], [⟨t_api_File, 2, out.map encF, true, ver⟩]⟩) less.length ⟨0, 1, false, [], by omega, by simp, fun _ => ⟨by simp, rfl⟩, (fun h => by cases h), ?_⟩ ?_
  · simp only [normR, keepR, Nat.reduceAdd, lkR, Nat.reduceBEq, F_all, List.map_nil]
    rfl
  rintro m S ⟨i, ver, b, out, him, hol, hb0, hb1, rfl⟩
  rcases Nat.lt_or_ge i less.length with h | h
  rotate_left 1
  · have hlt : ((i : Int) < (less.length : Int)) = False := eq_false (by omega)
    have htk : less.take i = less := List.take_of_length_le h
    rw [htk] at hb0 hb1
    cases b with
    | false =>
      obtain ⟨h1, rfl⟩ := hb0 rfl
      have hr : layF out x = out ++ [x] := by have := lay_less h1 []; simpa [layF] using this
      simp (maxSteps := 400000) only [↓preZ, postZ, coreZ, ↓preF, postF, D_all, F_all, unR, outL, onePV, binS, ↓binS, boundR, ↓boundR, fieldOf, ↓fieldOf, boxR, allocR, newObj, zeroElem, buildSliceR, appendR, setAll, storeR, St.freeze, makeSliceR, minmaxR, makeFuncR, BEq.rfl, reduceIte, reduceCtorEq, Nat.reduceLT, Nat.reduceAdd, Nat.reduceSub, Nat.reduceMul, Nat.reduceBEq, Nat.reduceLeDiff, Int.reduceToNat, Int.reduceLE, hQ, hlt, hless, hr]
      exact ⟨by omega, by omega⟩
    | true =>
      obtain ⟨h1, rfl⟩ := hb1 rfl
      simp (maxSteps := 400000) only [↓preZ, postZ, coreZ, ↓preF, postF, D_all, F_all, unR, outL, onePV, binS, ↓binS, boundR, ↓boundR, fieldOf, ↓fieldOf, boxR, allocR, newObj, zeroElem, buildSliceR, appendR, setAll, storeR, St.freeze, makeSliceR, minmaxR, makeFuncR, BEq.rfl, reduceIte, reduceCtorEq, Nat.reduceLT, Nat.reduceAdd, Nat.reduceSub, Nat.reduceMul, Nat.reduceBEq, Nat.reduceLeDiff, Int.reduceToNat, Int.reduceLE, hQ, hlt, hless]
  have hlt : ((i : Int) < (less.length : Int)) = True := eq_true (by omega)
  have ga := List.getElem?_eq_getElem h
  have htk : less.take (i + 1) = less.take i ++ [less[i]] := by rw [List.take_add_one, ga]; rfl
  have hne' := hne less[i] (List.getElem_mem h)
  generalize less[i] = y at ga htk hne'
  have hny : (y.name = x.name) = False := eq_false hne'
  have zi : (0 ≤ (i : Int)) = True := eq_true (by omega)
  cases b with
  | true =>
    obtain ⟨h1, h2⟩ := hb1 rfl
    have hy : layF (less.take (i + 1)) x = out ++ [y] := by rw [htk, h2]; exact lay_snoc h1
    simp (maxSteps := 400000) only [↓preZ, postZ, coreZ, ↓preF, postF, D_all, F_all, unR, outL, onePV, binS, ↓binS, boundR, ↓boundR, fieldOf, ↓fieldOf, boxR, allocR, newObj, zeroElem, buildSliceR, appendR, setAll, storeR, St.freeze, makeSliceR, minmaxR, makeFuncR, BEq.rfl, reduceIte, reduceCtorEq, Nat.reduceLT, Nat.reduceAdd, Nat.reduceSub, Nat.reduceMul, Nat.reduceBEq, Nat.reduceLeDiff, Int.reduceToNat, Int.reduceLE, hQ, hlt, zi, ga]
    refine ⟨by omega, by omega, ⟨by omega, by omega⟩, m - 1, by omega, i + 1, ver + 1, true, out ++ [y], by omega, by simp; omega, (fun h => by cases h), fun _ => ⟨?_, hy.symm⟩, ?_⟩
    · obtain ⟨c, hc, h3⟩ := h1
      exact ⟨c, by rw [htk]; exact List.mem_append_left _ hc, h3⟩
    · simp
  | false =>
    obtain ⟨h1, rfl⟩ := hb0 rfl
    have hlen : (less.take i).length = i := by simp; omega
    cases hyx : Op.bytesLess y.name x.name with
    | true =>
      simp (maxSteps := 400000) only [↓preZ, postZ, coreZ, ↓preF, postF, D_all, F_all, unR, outL, onePV, binS, ↓binS, boundR, ↓boundR, fieldOf, ↓fieldOf, boxR, allocR, newObj, zeroElem, buildSliceR, appendR, setAll, storeR, St.freeze, makeSliceR, minmaxR, makeFuncR, BEq.rfl, reduceIte, reduceCtorEq, Nat.reduceLT, Nat.reduceAdd, Nat.reduceSub, Nat.reduceMul, Nat.reduceBEq, Nat.reduceLeDiff, Int.reduceToNat, Int.reduceLE, hQ, hlt, zi, ga, hyx, hny, hlen]
      refine ⟨by omega, by omega, ⟨by omega, by omega⟩, m - 1, by omega, i + 1, ver + 1, false, less.take (i + 1), by omega, by simp; omega, fun _ => ⟨?_, rfl⟩, (fun h => by cases h), ?_⟩
      · rw [htk]
        intro c hc
        rcases List.mem_append.1 hc with hc | hc
        · exact h1 c hc
        · rw [List.mem_singleton.1 hc]; exact hyx
      · rw [htk]; simp
    | false =>
      have hxy : Op.bytesLess x.name y.name = true := by
        rcases bl_tri x.name y.name with h | h | h
        · exact h
        · exact absurd h.symm hne'
        · rw [hyx] at h; cases h
      have hy : layF (less.take (i + 1)) x = less.take i ++ [x, y] := by
        rw [htk, lay_less h1]
        simp [layF, hyx, hne']
      simp (maxSteps := 400000) only [↓preZ, postZ, coreZ, ↓preF, postF, D_all, F_all, unR, outL, onePV, binS, ↓binS, boundR, ↓boundR, fieldOf, ↓fieldOf, boxR, allocR, newObj, zeroElem, buildSliceR, appendR, setAll, storeR, St.freeze, makeSliceR, minmaxR, makeFuncR, BEq.rfl, reduceIte, reduceCtorEq, Nat.reduceLT, Nat.reduceAdd, Nat.reduceSub, Nat.reduceMul, Nat.reduceBEq, Nat.reduceLeDiff, Int.reduceToNat, Int.reduceLE, hQ, hlt, zi, ga, hyx, hny, hlen]
      refine ⟨by omega, by omega, by omega, by omega, ⟨by omega, by omega⟩, m - 1, by omega, i + 1, ver + 2, true, less.take i ++ [x, y], by omega, by simp; omega, (fun h => by cases h), fun _ => ⟨⟨y, by rw [htk]; simp, hxy⟩, hy.symm⟩, ?_⟩
      simp

def ctrWith : Ctr := fun args objs K => match args with
  | [a0, a1] => ofE encFs a0 (HK.mk : HK fun l => ofE encF a1 (HK.mk : HK fun x => (l.length ≤ 999999) ∧ K (encFs (layF (drpF l x.name) x)) objs 0))
  | _ => False
theorem ctrWith_ok : CtrOk Try.prog f_louperef23_with (ctrWith) := by
  intro args objs K h
  unfold ctrWith at h
  split at h
  · rename_i a0 a1
    obtain ⟨l, rfl, x, rfl, h1, hk⟩ := h
    exact ⟨_, _, _, .pure _ rfl (with_spec l x h1), hk⟩
  · exact h.elim

end Lp

/-! LpW42 -/

namespace Lp
open Go Go.Proofs

set_option maxHeartbeats 4000000
set_option maxRecDepth 20000
set_option linter.unusedSimpArgs false

theorem equalF_spec (a b : List Fl) (ha : a.length ≤ 4611686018427387904) (hb : b.length ≤ 4611686018427387904) : FnSpec Try.prog f_slices_Equal_L_api_File_api_File_ [encFs a, encFs b] [] (.bool (decide (a = b))) [] := by
  refine k_slices_Equal_L_api_File_api_File_.pureG (T := tabL Try.prog []) 0 hD (kOk_tabL tabOk_nil) hmix (by decide) fun Q hQ => ?_
  try simp only [F_all]
  by_cases hl : a.length = b.length
  rotate_left 1
  · have hl' : ((a.length : Int) = (b.length : Int)) = False := eq_false (by omega)
    have hr : decide (a = b) = false := decide_eq_false fun h => hl (by rw [h])
    simp (maxSteps := 400000) only [↓preZ, postZ, coreZ, ↓preF, postF, D_all, F_all, unR, outL, onePV, binS, ↓binS, boundR, ↓boundR, fieldOf, ↓fieldOf, boxR, allocR, newObj, zeroElem, buildSliceR, appendR, setAll, storeR, St.freeze, makeSliceR, minmaxR, makeFuncR, BEq.rfl, reduceIte, reduceCtorEq, Nat.reduceLT, Nat.reduceAdd, Nat.reduceSub, Nat.reduceMul, Nat.reduceBEq, Nat.reduceLeDiff, Int.reduceToNat, Int.reduceLE, hQ, c_slices_Equal_L_api_File_api_File_, hl', hr]
  have hl' : ((a.length : Int) = (b.length : Int)) = True := eq_true (by omega)
  simp (maxSteps := 400000) only [↓preZ, postZ, coreZ, ↓preF, postF, D_all, F_all, unR, outL, onePV, binS, ↓binS, boundR, ↓boundR, fieldOf, ↓fieldOf, boxR, allocR, newObj, zeroElem, buildSliceR, appendR, setAll, storeR, St.freeze, makeSliceR, minmaxR, makeFuncR, BEq.rfl, reduceIte, reduceCtorEq, Nat.reduceLT, Nat.reduceAdd, Nat.reduceSub, Nat.reduceMul, Nat.reduceBEq, Nat.reduceLeDiff, Int.reduceToNat, Int.reduceLE, hQ, c_slices_Equal_L_api_File_api_File_, hl']
  refine wpc_loop (fun m S => ∃ i : Nat, i + m = a.length ∧ (∀ j, j < i → a[j]? = b[j]?) ∧ S = ⟨tmA 26 [(0, encFs a), (1, encFs b), (12, .int .i64 a.length), (13, .int .i64 i)], []⟩) a.length ⟨0, by omega, fun j h => absurd h (by omega), ?_⟩ ?_
  · simp only [normR, keepR, Nat.reduceAdd, lkR, Nat.reduceBEq, F_all, List.map_nil]
    rfl
  rintro m S ⟨i, him, hj, rfl⟩
  have zi : (0 ≤ (i : Int)) = True := eq_true (by omega)
  rcases Nat.lt_or_ge i a.length with h | h
  rotate_left 1
  · have hlt : ((i : Int) < (a.length : Int)) = False := eq_false (by omega)
    have hab : a = b := List.ext_getElem? fun j => by
      by_cases hji : j < i
      · exact hj j hji
      · rw [List.getElem?_eq_none (by omega), List.getElem?_eq_none (by omega)]
    have hr : decide (a = b) = true := decide_eq_true hab
    simp (maxSteps := 400000) only [↓preZ, postZ, coreZ, ↓preF, postF, D_all, F_all, unR, outL, onePV, binS, ↓binS, boundR, ↓boundR, fieldOf, ↓fieldOf, boxR, allocR, newObj, zeroElem, buildSliceR, appendR, setAll, storeR, St.freeze, makeSliceR, minmaxR, makeFuncR, BEq.rfl, reduceIte, reduceCtorEq, Nat.reduceLT, Nat.reduceAdd, Nat.reduceSub, Nat.reduceMul, Nat.reduceBEq, Nat.reduceLeDiff, Int.reduceToNat, Int.reduceLE, hQ, hlt, hr]
  have hlt : ((i : Int) < (a.length : Int)) = True := eq_true (by omega)
  have ga := List.getElem?_eq_getElem h
  have gb : b[i]? = some (b[i]'(by omega)) := List.getElem?_eq_getElem (by omega)
  generalize a[i] = x at ga
  generalize b[i]'(by omega) = y at gb
  by_cases hxy : x = y
  · have hxy' : (x = y) = True := eq_true hxy
    simp (maxSteps := 400000) only [↓preZ, postZ, coreZ, ↓preF, postF, D_all, F_all, unR, outL, onePV, binS, ↓binS, boundR, ↓boundR, fieldOf, ↓fieldOf, boxR, allocR, newObj, zeroElem, buildSliceR, appendR, setAll, storeR, St.freeze, makeSliceR, minmaxR, makeFuncR, BEq.rfl, reduceIte, reduceCtorEq, Nat.reduceLT, Nat.reduceAdd, Nat.reduceSub, Nat.reduceMul, Nat.reduceBEq, Nat.reduceLeDiff, Int.reduceToNat, Int.reduceLE, hQ, hlt, zi, ga, gb, hxy']
    refine ⟨⟨by omega, by omega⟩, m - 1, by omega, i + 1, by omega, ?_, by simp⟩
    intro j hji
    by_cases hjj : j = i
    · subst hjj; rw [ga, gb, hxy]
    · exact hj j (by omega)
  · have hxy' : (x = y) = False := eq_false hxy
    have hr : decide (a = b) = false := decide_eq_false fun h => hxy (by rw [h, gb] at ga; exact (Option.some.inj ga).symm)
    simp (maxSteps := 400000) only [↓preZ, postZ, coreZ, ↓preF, postF, D_all, F_all, unR, outL, onePV, binS, ↓binS, boundR, ↓boundR, fieldOf, ↓fieldOf, boxR, allocR, newObj, zeroElem, buildSliceR, appendR, setAll, storeR, St.freeze, makeSliceR, minmaxR, makeFuncR, BEq.rfl, reduceIte, reduceCtorEq, Nat.reduceLT, Nat.reduceAdd, Nat.reduceSub, Nat.reduceMul, Nat.reduceBEq, Nat.reduceLeDiff, Int.reduceToNat, Int.reduceLE, hQ, hlt, zi, ga, gb, hxy', hr]

def ctrEqualF : Ctr := fun args objs K => match args with
  | [a0, a1] => ofE encFs a0 (HK.mk : HK fun a => ofE encFs a1 (HK.mk : HK fun b => (a.length ≤ 4611686018427387904) ∧ (b.length ≤ 4611686018427387904) ∧ K (.bool (decide (a = b))) objs 0))
  | _ => False
theorem ctrEqualF_ok : CtrOk Try.prog f_slices_Equal_L_api_File_api_File_ (ctrEqualF) := by
  intro args objs K h
  unfold ctrEqualF at h
  split at h
  · rename_i a0 a1
    obtain ⟨a, rfl, b, rfl, h1, h2, hk⟩ := h
    exact ⟨_, _, _, .pure _ rfl (equalF_spec a b h1 h2), hk⟩
  · exact h.elim

theorem equalX_spec (a b : List De) (ha : a.length ≤ 4611686018427387904) (hb : b.length ≤ 4611686018427387904) : FnSpec Try.prog f_slices_Equal_L_api_Deed_api_Deed_ [encXs a, encXs b] [] (.bool (decide (a = b))) [] := by
  refine k_slices_Equal_L_api_Deed_api_Deed_.pureG (T := tabL Try.prog []) 0 hD (kOk_tabL tabOk_nil) hmix (by decide) fun Q hQ => ?_
  try simp only [F_all]
  by_cases hl : a.length = b.length
  rotate_left 1
  · have hl' : ((a.length : Int) = (b.length : Int)) = False := eq_false (by omega)
    have hr : decide (a = b) = false := decide_eq_false fun h => hl (by rw [h])
    simp (maxSteps := 400000) only [↓preZ, postZ, coreZ, ↓preF, postF, D_all, F_all, unR, outL, onePV, binS, ↓binS, boundR, ↓boundR, fieldOf, ↓fieldOf, boxR, allocR, newObj, zeroElem, buildSliceR, appendR, setAll, storeR, St.freeze, makeSliceR, minmaxR, makeFuncR, BEq.rfl, reduceIte, reduceCtorEq, Nat.reduceLT, Nat.reduceAdd, Nat.reduceSub, Nat.reduceMul, Nat.reduceBEq, Nat.reduceLeDiff, Int.reduceToNat, Int.reduceLE, hQ, c_slices_Equal_L_api_Deed_api_Deed_, hl', hr]
  have hl' : ((a.length : Int) = (b.length : Int)) = True := eq_true (by omega)
  simp (maxSteps := 400000) only [↓preZ, postZ, coreZ, ↓preF, postF, D_all, F_all, unR, outL, onePV, binS, ↓binS, boundR, ↓boundR, fieldOf, ↓fieldOf, boxR, allocR, newObj, zeroElem, buildSliceR, appendR, setAll, storeR, St.freeze, makeSliceR, minmaxR, makeFuncR, BEq.rfl, reduceIte, reduceCtorEq, Nat.reduceLT, Nat.reduceAdd, Nat.reduceSub, Nat.reduceMul, Nat.reduceBEq, Nat.reduceLeDiff, Int.reduceToNat, Int.reduceLE, hQ, c_slices_Equal_L_api_Deed_api_Deed_, hl']
  refine wpc_loop (fun m S => ∃ i : Nat, i + m = a.length ∧ (∀ j, j < i → a[j]? = b[j]?) ∧ S = ⟨tmA 26 [(0, encXs a), (1, encXs b), (12, .int .i64 a.length), (13, .int .i64 i)], []⟩) a.length ⟨0, by omega, fun j h => absurd h (by omega), ?_⟩ ?_
  · simp only [normR, keepR, Nat.reduceAdd, lkR, Nat.reduceBEq, F_all, List.map_nil]
    rfl
  rintro m S ⟨i, him, hj, rfl⟩
  have zi : (0 ≤ (i : Int)) = True := eq_true (by omega)
  rcases Nat.lt_or_ge i a.length with h | h
  rotate_left 1
  · have hlt : ((i : Int) < (a.length : Int)) = False := eq_false (by omega)
    have hab : a = b := List.ext_getElem? fun j => by
      by_cases hji : j < i
      · exact hj j hji
      · rw [List.getElem?_eq_none (by omega), List.getElem?_eq_none (by omega)]
    have hr : decide (a = b) = true := decide_eq_true hab
    simp (maxSteps := 400000) only [↓preZ, postZ, coreZ, ↓preF, postF, D_all, F_all, unR, outL, onePV, binS, ↓binS, boundR, ↓boundR, fieldOf, ↓fieldOf, boxR, allocR, newObj, zeroElem, buildSliceR, appendR, setAll, storeR, St.freeze, makeSliceR, minmaxR, makeFuncR, BEq.rfl, reduceIte, reduceCtorEq, Nat.reduceLT, Nat.reduceAdd, Nat.reduceSub, Nat.reduceMul, Nat.reduceBEq, Nat.reduceLeDiff, Int.reduceToNat, Int.reduceLE, hQ, hlt, hr]
  have hlt : ((i : Int) < (a.length : Int)) = True := eq_true (by omega)
  have ga := List.getElem?_eq_getElem h
  have gb : b[i]? = some (b[i]'(by omega)) := List.getElem?_eq_getElem (by omega)
  generalize a[i] = x at ga
  generalize b[i]'(by omega) = y at gb
  by_cases hxy : x = y
  · have hxy' : (x = y) = True := eq_true hxy
    simp (maxSteps := 400000) only [↓preZ, postZ, coreZ, ↓preF, postF, D_all, F_all, unR, outL, onePV, binS, ↓binS, boundR, ↓boundR, fieldOf, ↓fieldOf, boxR, allocR, newObj, zeroElem, buildSliceR, appendR, setAll, storeR, St.freeze, makeSliceR, minmaxR, makeFuncR, BEq.rfl, reduceIte, reduceCtorEq, Nat.reduceLT, Nat.reduceAdd, Nat.reduceSub, Nat.reduceMul, Nat.reduceBEq, Nat.reduceLeDiff, Int.reduceToNat, Int.reduceLE, hQ, hlt, zi, ga, gb, hxy']
    refine ⟨⟨by omega, by omega⟩, m - 1, by omega, i + 1, by omega, ?_, by simp⟩
    intro j hji
    by_cases hjj : j = i
    · subst hjj; rw [ga, gb, hxy]
    · exact hj j (by omega)
  · have hxy' : (x = y) = False := eq_false hxy
    have hr : decide (a = b) = false := decide_eq_false fun h => hxy (by rw [h, gb] at ga; exact (Option.some.inj ga).symm)
    simp (maxSteps := 400000) only [↓preZ, postZ, coreZ, ↓preF, postF, D_all, F_all, unR, outL, onePV, binS, ↓binS, boundR, ↓boundR, fieldOf, ↓fieldOf, boxR, allocR, newObj, zeroElem, buildSliceR, appendR, setAll, storeR, St.freeze, makeSliceR, minmaxR, makeFuncR, BEq.rfl, reduceIte, reduceCtorEq, Nat.reduceLT, Nat.reduceAdd, Nat.reduceSub, Nat.reduceMul, Nat.reduceBEq, Nat.reduceLeDiff, Int.reduceToNat, Int.reduceLE, hQ, hlt, zi, ga, gb, hxy', hr]

def ctrEqualX : Ctr := fun args objs K => match args with
  | [a0, a1] => ofE encXs a0 (HK.mk : HK fun a => ofE encXs a1 (HK.mk : HK fun b => (a.length ≤ 4611686018427387904) ∧ (b.length ≤ 4611686018427387904) ∧ K (.bool (decide (a = b))) objs 0))
  | _ => False
theorem ctrEqualX_ok : CtrOk Try.prog f_slices_Equal_L_api_Deed_api_Deed_ (ctrEqualX) := by
  intro args objs K h
  unfold ctrEqualX at h
  split at h
  · rename_i a0 a1
    obtain ⟨a, rfl, b, rfl, h1, h2, hk⟩ := h
    exact ⟨_, _, _, .pure _ rfl (equalX_spec a b h1 h2), hk⟩
  · exact h.elim

/-- A disk of no more files, deeds than there can be. -/
def okK (k : Dk) : Prop := k.l.length ≤ 4611686018427387904 ∧ k.d.length ≤ 4611686018427387904

theorem fsame_spec (a b : Dk) (ha : okK a) (hb : okK b) : FnSpec Try.prog f_file_Same [encK a, encK b] [] (.bool (decide (a = b))) [] := by
  refine k_file_Same.pureG (T := tabL Try.prog [(f_slices_Equal_L_api_File_api_File_, ctrEqualF), (f_slices_Equal_L_api_Deed_api_Deed_, ctrEqualX)]) 0 hD (kOk_tabL (tabOk_cons ctrEqualF_ok (tabOk_cons ctrEqualX_ok tabOk_nil))) hmix (by decide) fun Q hQ => ?_
  try simp only [F_all]
  simp (maxSteps := 400000) only [↓preZ, postZ, coreZ, ↓preF, postF, D_all, F_all, unR, outL, onePV, binS, ↓binS, boundR, ↓boundR, fieldOf, ↓fieldOf, boxR, allocR, newObj, zeroElem, buildSliceR, appendR, setAll, storeR, St.freeze, makeSliceR, minmaxR, makeFuncR, BEq.rfl, reduceIte, reduceCtorEq, Nat.reduceLT, Nat.reduceAdd, Nat.reduceSub, Nat.reduceMul, Nat.reduceBEq, Nat.reduceLeDiff, Int.reduceToNat, Int.reduceLE, hQ, c_file_Same]
  refine wpc_weak _ (Weak.freeze 1 0 (Nat.zero_le _) _) ?_
  have h1 := eq_true ha.1
  have h2 := eq_true ha.2
  have h3 := eq_true hb.1
  have h4 := eq_true hb.2
  obtain ⟨al, ad⟩ := a
  obtain ⟨bl, bd⟩ := b
  have hr : decide ((⟨al, ad⟩ : Dk) = ⟨bl, bd⟩) = (decide (al = bl) && decide (ad = bd)) := by simp [Bool.decide_and]
  rcases tf (al = bl) with e1 | e1 <;> rcases tf (ad = bd) with e2 | e2
  all_goals simp (maxSteps := 400000) only [↓preZ, postZ, coreZ, ↓preF, postF, D_all, F_all, unR, outL, onePV, binS, ↓binS, boundR, ↓boundR, fieldOf, ↓fieldOf, boxR, allocR, newObj, zeroElem, buildSliceR, appendR, setAll, storeR, St.freeze, makeSliceR, minmaxR, makeFuncR, BEq.rfl, reduceIte, reduceCtorEq, Nat.reduceLT, Nat.reduceAdd, Nat.reduceSub, Nat.reduceMul, Nat.reduceBEq, Nat.reduceLeDiff, Int.reduceToNat, Int.reduceLE, hQ, ↓ctrEqualF, ↓ctrEqualX, h1, h2, h3, h4, e1, e2, hr]

def ctrFSame : Ctr := fun args objs K => match args with
  | [a0, a1] => ofE encK a0 (HK.mk : HK fun a => ofE encK a1 (HK.mk : HK fun b => (okK a) ∧ (okK b) ∧ K (.bool (decide (a = b))) objs 0))
  | _ => False
theorem ctrFSame_ok : CtrOk Try.prog f_file_Same (ctrFSame) := by
  intro args objs K h
  unfold ctrFSame at h
  split at h
  · rename_i a0 a1
    obtain ⟨a, rfl, b, rfl, h1, h2, hk⟩ := h
    exact ⟨_, _, _, .pure _ rfl (fsame_spec a b h1 h2), hk⟩
  · exact h.elim

theorem rsame_spec (a b : Dk) (ha : okK a) (hb : okK b) : FnSpec Try.prog f_louperef23_Same [encK a, encK b] [] (.bool (decide (a = b))) [] := by
  refine k_louperef23_Same.pureG (T := tabL Try.prog []) 0 hD (kOk_tabL tabOk_nil) hmix (by decide) fun Q hQ => ?_
  try simp only [F_all]
  simp (maxSteps := 400000) only [↓preZ, postZ, coreZ, ↓preF, postF, D_all, F_all, unR, outL, onePV, binS, ↓binS, boundR, ↓boundR, fieldOf, ↓fieldOf, boxR, allocR, newObj, zeroElem, buildSliceR, appendR, setAll, storeR, St.freeze, makeSliceR, minmaxR, makeFuncR, BEq.rfl, reduceIte, reduceCtorEq, Nat.reduceLT, Nat.reduceAdd, Nat.reduceSub, Nat.reduceMul, Nat.reduceBEq, Nat.reduceLeDiff, Int.reduceToNat, Int.reduceLE, hQ, c_louperef23_Same]
  refine wpc_weak _ (Weak.freeze 1 0 (Nat.zero_le _) _) ?_
  obtain ⟨al, ad⟩ := a
  obtain ⟨bl, bd⟩ := b
  obtain ⟨ha1, ha2⟩ := ha
  obtain ⟨hb1, hb2⟩ := hb
  simp only [] at ha1 ha2 hb1 hb2
  have hr : decide ((⟨al, ad⟩ : Dk) = ⟨bl, bd⟩) = (decide (al = bl) && decide (ad = bd)) := by simp [Bool.decide_and]
  by_cases hl : al.length = bl.length
  rotate_left 1
  · have hl' : ((al.length : Int) = (bl.length : Int)) = False := eq_false (by omega)
    have hn : decide (al = bl) = false := decide_eq_false fun h => hl (by rw [h])
    simp (maxSteps := 400000) only [↓preZ, postZ, coreZ, ↓preF, postF, D_all, F_all, unR, outL, onePV, binS, ↓binS, boundR, ↓boundR, fieldOf, ↓fieldOf, boxR, allocR, newObj, zeroElem, buildSliceR, appendR, setAll, storeR, St.freeze, makeSliceR, minmaxR, makeFuncR, BEq.rfl, reduceIte, reduceCtorEq, Nat.reduceLT, Nat.reduceAdd, Nat.reduceSub, Nat.reduceMul, Nat.reduceBEq, Nat.reduceLeDiff, Int.reduceToNat, Int.reduceLE, hQ, hl', hr, hn, Bool.false_and]
  have hl' : ((al.length : Int) = (bl.length : Int)) = True := eq_true (by omega)
  by_cases hd : ad.length = bd.length
  rotate_left 1
  · have hd' : ((ad.length : Int) = (bd.length : Int)) = False := eq_false (by omega)
    have hn : decide (ad = bd) = false := decide_eq_false fun h => hd (by rw [h])
    simp (maxSteps := 400000) only [↓preZ, postZ, coreZ, ↓preF, postF, D_all, F_all, unR, outL, onePV, binS, ↓binS, boundR, ↓boundR, fieldOf, ↓fieldOf, boxR, allocR, newObj, zeroElem, buildSliceR, appendR, setAll, storeR, St.freeze, makeSliceR, minmaxR, makeFuncR, BEq.rfl, reduceIte, reduceCtorEq, Nat.reduceLT, Nat.reduceAdd, Nat.reduceSub, Nat.reduceMul, Nat.reduceBEq, Nat.reduceLeDiff, Int.reduceToNat, Int.reduceLE, hQ, hl', hd', hr, hn, Bool.and_false]
  have hd' : ((ad.length : Int) = (bd.length : Int)) = True := eq_true (by omega)
  simp (maxSteps := 400000) only [↓preZ, postZ, coreZ, ↓preF, postF, D_all, F_all, unR, outL, onePV, binS, ↓binS, boundR, ↓boundR, fieldOf, ↓fieldOf, boxR, allocR, newObj, zeroElem, buildSliceR, appendR, setAll, storeR, St.freeze, makeSliceR, minmaxR, makeFuncR, BEq.rfl, reduceIte, reduceCtorEq, Nat.reduceLT, Nat.reduceAdd, Nat.reduceSub, Nat.reduceMul, Nat.reduceBEq, Nat.reduceLeDiff, Int.reduceToNat, Int.reduceLE, hQ, hl', hd']
  refine wpc_loop (fun m S => ∃ i : Nat, i + m = al.length ∧ (∀ j, j < i → al[j]? = bl[j]?) ∧ S = ⟨tmA 59 [(2, .addr (encK ⟨al, ad⟩)), (3, .addr (encK ⟨bl, bd⟩)), (5, .int .i64 i)], []⟩) al.length ⟨0, by omega, fun j h => absurd h (by omega), ?_⟩ ?_
  · simp only [normR, keepR, Nat.reduceAdd, lkR, Nat.reduceBEq, F_all, List.map_nil]
    rfl
  rintro m S ⟨i, him, hj, rfl⟩
  have zi : (0 ≤ (i : Int)) = True := eq_true (by omega)
  rcases Nat.lt_or_ge i al.length with h | h
  · have hlt : ((i : Int) < (al.length : Int)) = True := eq_true (by omega)
    have ga := List.getElem?_eq_getElem h
    have gb : bl[i]? = some (bl[i]'(by omega)) := List.getElem?_eq_getElem (by omega)
    generalize al[i] = x at ga
    generalize bl[i]'(by omega) = y at gb
    by_cases hxy : x = y
    · have hxy' : (x = y) = True := eq_true hxy
      simp (maxSteps := 400000) only [↓preZ, postZ, coreZ, ↓preF, postF, D_all, F_all, unR, outL, onePV, binS, ↓binS, boundR, ↓boundR, fieldOf, ↓fieldOf, boxR, allocR, newObj, zeroElem, buildSliceR, appendR, setAll, storeR, St.freeze, makeSliceR, minmaxR, makeFuncR, BEq.rfl, reduceIte, reduceCtorEq, Nat.reduceLT, Nat.reduceAdd, Nat.reduceSub, Nat.reduceMul, Nat.reduceBEq, Nat.reduceLeDiff, Int.reduceToNat, Int.reduceLE, hQ, hlt, zi, ga, gb, hxy']
      refine ⟨⟨by omega, by omega⟩, m - 1, by omega, i + 1, by omega, ?_, by simp⟩
      intro j hji
      by_cases hjj : j = i
      · subst hjj; rw [ga, gb, hxy]
      · exact hj j (by omega)
    · have hxy' : (x = y) = False := eq_false hxy
      have hn : decide (al = bl) = false := decide_eq_false fun h => hxy (by rw [h, gb] at ga; exact (Option.some.inj ga).symm)
      simp (maxSteps := 400000) only [↓preZ, postZ, coreZ, ↓preF, postF, D_all, F_all, unR, outL, onePV, binS, ↓binS, boundR, ↓boundR, fieldOf, ↓fieldOf, boxR, allocR, newObj, zeroElem, buildSliceR, appendR, setAll, storeR, St.freeze, makeSliceR, minmaxR, makeFuncR, BEq.rfl, reduceIte, reduceCtorEq, Nat.reduceLT, Nat.reduceAdd, Nat.reduceSub, Nat.reduceMul, Nat.reduceBEq, Nat.reduceLeDiff, Int.reduceToNat, Int.reduceLE, hQ, hlt, zi, ga, gb, hxy', hr, hn, Bool.false_and]
  have hlt : ((i : Int) < (al.length : Int)) = False := eq_false (by omega)
  have hab : al = bl := List.ext_getElem? fun j => by
    by_cases hji : j < i
    · exact hj j hji
    · rw [List.getElem?_eq_none (by omega), List.getElem?_eq_none (by omega)]
  have hn1 : decide (al = bl) = true := decide_eq_true hab
  simp (maxSteps := 400000) only [↓preZ, postZ, coreZ, ↓preF, postF, D_all, F_all, unR, outL, onePV, binS, ↓binS, boundR, ↓boundR, fieldOf, ↓fieldOf, boxR, allocR, newObj, zeroElem, buildSliceR, appendR, setAll, storeR, St.freeze, makeSliceR, minmaxR, makeFuncR, BEq.rfl, reduceIte, reduceCtorEq, Nat.reduceLT, Nat.reduceAdd, Nat.reduceSub, Nat.reduceMul, Nat.reduceBEq, Nat.reduceLeDiff, Int.reduceToNat, Int.reduceLE, hQ, hlt]
  refine wpc_loop (fun m S => ∃ i : Nat, i + m = ad.length ∧ (∀ j, j < i → ad[j]? = bd[j]?) ∧ S = ⟨tmA 59 [(2, .addr (encK ⟨al, ad⟩)), (3, .addr (encK ⟨bl, bd⟩)), (6, .int .i64 i)], []⟩) ad.length ⟨0, by omega, fun j h => absurd h (by omega), ?_⟩ ?_
  · simp only [normR, keepR, Nat.reduceAdd, lkR, Nat.reduceBEq, F_all, List.map_nil]
    rfl
  clear hj hlt h him zi
  rintro m S ⟨i, him, hj, rfl⟩
  have zi : (0 ≤ (i : Int)) = True := eq_true (by omega)
  rcases Nat.lt_or_ge i ad.length with h | h
  · have hlt : ((i : Int) < (ad.length : Int)) = True := eq_true (by omega)
    have ga := List.getElem?_eq_getElem h
    have gb : bd[i]? = some (bd[i]'(by omega)) := List.getElem?_eq_getElem (by omega)
    generalize ad[i] = x at ga
    generalize bd[i]'(by omega) = y at gb
    by_cases hxy : x = y
    · have hxy' : (x = y) = True := eq_true hxy
      simp (maxSteps := 400000) only [↓preZ, postZ, coreZ, ↓preF, postF, D_all, F_all, unR, outL, onePV, binS, ↓binS, boundR, ↓boundR, fieldOf, ↓fieldOf, boxR, allocR, newObj, zeroElem, buildSliceR, appendR, setAll, storeR, St.freeze, makeSliceR, minmaxR, makeFuncR, BEq.rfl, reduceIte, reduceCtorEq, Nat.reduceLT, Nat.reduceAdd, Nat.reduceSub, Nat.reduceMul, Nat.reduceBEq, Nat.reduceLeDiff, Int.reduceToNat, Int.reduceLE, hQ, hlt, zi, ga, gb, hxy']
      refine ⟨⟨by omega, by omega⟩, m - 1, by omega, i + 1, by omega, ?_, by simp⟩
      intro j hji
      by_cases hjj : j = i
      · subst hjj; rw [ga, gb, hxy]
      · exact hj j (by omega)
    · have hxy' : (x = y) = False := eq_false hxy
      have hn : decide (ad = bd) = false := decide_eq_false fun h => hxy (by rw [h, gb] at ga; exact (Option.some.inj ga).symm)
      simp (maxSteps := 400000) only [↓preZ, postZ, coreZ, ↓preF, postF, D_all, F_all, unR, outL, onePV, binS, ↓binS, boundR, ↓boundR, fieldOf, ↓fieldOf, boxR, allocR, newObj, zeroElem, buildSliceR, appendR, setAll, storeR, St.freeze, makeSliceR, minmaxR, makeFuncR, BEq.rfl, reduceIte, reduceCtorEq, Nat.reduceLT, Nat.reduceAdd, Nat.reduceSub, Nat.reduceMul, Nat.reduceBEq, Nat.reduceLeDiff, Int.reduceToNat, Int.reduceLE, hQ, hlt, zi, ga, gb, hxy', hr, hn, Bool.and_false]
  have hlt : ((i : Int) < (ad.length : Int)) = False := eq_false (by omega)
  have hab2 : ad = bd := List.ext_getElem? fun j => by
    by_cases hji : j < i
    · exact hj j hji
    · rw [List.getElem?_eq_none (by omega), List.getElem?_eq_none (by omega)]
  have hn2 : decide (ad = bd) = true := decide_eq_true hab2
  simp (maxSteps := 400000) only [↓preZ, postZ, coreZ, ↓preF, postF, D_all, F_all, unR, outL, onePV, binS, ↓binS, boundR, ↓boundR, fieldOf, ↓fieldOf, boxR, allocR, newObj, zeroElem, buildSliceR, appendR, setAll, storeR, St.freeze, makeSliceR, minmaxR, makeFuncR, BEq.rfl, reduceIte, reduceCtorEq, Nat.reduceLT, Nat.reduceAdd, Nat.reduceSub, Nat.reduceMul, Nat.reduceBEq, Nat.reduceLeDiff, Int.reduceToNat, Int.reduceLE, hQ, hlt, hr, hn1, hn2]

def ctrRSame : Ctr := fun args objs K => match args with
  | [a0, a1] => ofE encK a0 (HK.mk : HK fun a => ofE encK a1 (HK.mk : HK fun b => (okK a) ∧ (okK b) ∧ K (.bool (decide (a = b))) objs 0))
  | _ => False
theorem ctrRSame_ok : CtrOk Try.prog f_louperef23_Same (ctrRSame) := by
  intro args objs K h
  unfold ctrRSame at h
  split at h
  · rename_i a0 a1
    obtain ⟨a, rfl, b, rfl, h1, h2, hk⟩ := h
    exact ⟨_, _, _, .pure _ rfl (rsame_spec a b h1 h2), hk⟩
  · exact h.elim

/-! ### What is small -/

def smF (f : Fl) : Bool := decide (f.name.length ≤ 60 ∧ f.s.length ≤ 2000)
def smX (x : De) : Bool := decide (x.name.length ≤ 60 ∧ x.s.length ≤ 2000)
def smK (k : Dk) : Bool := decide (k.l.length ≤ 20 ∧ k.d.length ≤ 20) && (k.l.all smF && k.d.all smX)

theorem all_false {α : Type} {p : α → Bool} {l : List α} {i : Nat} {x : α} (h : l[i]? = some x) (hp : p x = false) : l.all p = false := by
  cases hh : l.all p with
  | false => rfl
  | true => rw [List.all_eq_true.1 hh x (List.mem_of_getElem? h)] at hp; cases hp

theorem all_true {α : Type} {p : α → Bool} {l : List α} (h : ∀ (j : Nat) (x : α), l[j]? = some x → p x = true) : l.all p = true := by
  rw [List.all_eq_true]
  intro x hx
  obtain ⟨j, hj, rfl⟩ := List.mem_iff_getElem.1 hx
  exact h j _ (List.getElem?_eq_getElem hj)

theorem small_spec (k : Dk) (hk : okK k) (hs : (∀ f ∈ k.l, f.name.length ≤ 4611686018427387904 ∧ f.s.length ≤ 4611686018427387904) ∧ ∀ x ∈ k.d, okX x) : FnSpec Try.prog f_louperef23_Small [encK k] [] (.bool (smK k)) [] := by
  refine k_louperef23_Small.pureG (T := tabL Try.prog []) 0 hD (kOk_tabL tabOk_nil) hmix (by decide) fun Q hQ => ?_
  try simp only [F_all]
  simp (maxSteps := 400000) only [↓preZ, postZ, coreZ, ↓preF, postF, D_all, F_all, unR, outL, onePV, binS, ↓binS, boundR, ↓boundR, fieldOf, ↓fieldOf, boxR, allocR, newObj, zeroElem, buildSliceR, appendR, setAll, storeR, St.freeze, makeSliceR, minmaxR, makeFuncR, BEq.rfl, reduceIte, reduceCtorEq, Nat.reduceLT, Nat.reduceAdd, Nat.reduceSub, Nat.reduceMul, Nat.reduceBEq, Nat.reduceLeDiff, Int.reduceToNat, Int.reduceLE, hQ, c_louperef23_Small]
  refine wpc_weak _ (Weak.freeze 1 0 (Nat.zero_le _) _) ?_
  obtain ⟨l, d⟩ := k
  obtain ⟨hk1, hk2⟩ := hk
  obtain ⟨hs1, hs2⟩ := hs
  simp only [] at hk1 hk2 hs1 hs2
  have hr : smK ⟨l, d⟩ = (decide (l.length ≤ 20 ∧ d.length ≤ 20) && (l.all smF && d.all smX)) := rfl
  by_cases h1 : l.length ≤ 20
  rotate_left 1
  · have h1' : ((l.length : Int) ≤ 20) = False := eq_false (by omega)
    have h1'' : (20 < (l.length : Int)) = True := eq_true (by omega)
    have hn : smK ⟨l, d⟩ = false := by rw [hr, decide_eq_false (fun h => h1 h.1)]; rfl
    simp (maxSteps := 400000) only [↓preZ, postZ, coreZ, ↓preF, postF, D_all, F_all, unR, outL, onePV, binS, ↓binS, boundR, ↓boundR, fieldOf, ↓fieldOf, boxR, allocR, newObj, zeroElem, buildSliceR, appendR, setAll, storeR, St.freeze, makeSliceR, minmaxR, makeFuncR, BEq.rfl, reduceIte, reduceCtorEq, Nat.reduceLT, Nat.reduceAdd, Nat.reduceSub, Nat.reduceMul, Nat.reduceBEq, Nat.reduceLeDiff, Int.reduceToNat, Int.reduceLE, hQ, h1', h1'', hn]
  have h1' : ((l.length : Int) ≤ 20) = True := eq_true (by omega)
  have h1'' : (20 < (l.length : Int)) = False := eq_false (by omega)
  by_cases h2 : d.length ≤ 20
  rotate_left 1
  · have h2' : ((d.length : Int) ≤ 20) = False := eq_false (by omega)
    have h2'' : (20 < (d.length : Int)) = True := eq_true (by omega)
    have hn : smK ⟨l, d⟩ = false := by rw [hr, decide_eq_false (fun h => h2 h.2)]; rfl
    simp (maxSteps := 400000) only [↓preZ, postZ, coreZ, ↓preF, postF, D_all, F_all, unR, outL, onePV, binS, ↓binS, boundR, ↓boundR, fieldOf, ↓fieldOf, boxR, allocR, newObj, zeroElem, buildSliceR, appendR, setAll, storeR, St.freeze, makeSliceR, minmaxR, makeFuncR, BEq.rfl, reduceIte, reduceCtorEq, Nat.reduceLT, Nat.reduceAdd, Nat.reduceSub, Nat.reduceMul, Nat.reduceBEq, Nat.reduceLeDiff, Int.reduceToNat, Int.reduceLE, hQ, h1', h1'', h2', h2'', hn]
  have h2' : ((d.length : Int) ≤ 20) = True := eq_true (by omega)
  have h2'' : (20 < (d.length : Int)) = False := eq_false (by omega)
  rw [decide_eq_true (⟨h1, h2⟩ : l.length ≤ 20 ∧ d.length ≤ 20), Bool.true_and] at hr
  simp (maxSteps := 400000) only [↓preZ, postZ, coreZ, ↓preF, postF, D_all, F_all, unR, outL, onePV, binS, ↓binS, boundR, ↓boundR, fieldOf, ↓fieldOf, boxR, allocR, newObj, zeroElem, buildSliceR, appendR, setAll, storeR, St.freeze, makeSliceR, minmaxR, makeFuncR, BEq.rfl, reduceIte, reduceCtorEq, Nat.reduceLT, Nat.reduceAdd, Nat.reduceSub, Nat.reduceMul, Nat.reduceBEq, Nat.reduceLeDiff, Int.reduceToNat, Int.reduceLE, hQ, h1', h1'', h2', h2'']
  refine wpc_loop (fun m S => ∃ i : Nat, i + m = l.length ∧ (∀ (j : Nat) (x : Fl), j < i → l[j]? = some x → smF x = true) ∧ S = ⟨tmA 65 [(1, .addr (encK ⟨l, d⟩)), (3, .int .i64 i)], []⟩) l.length ⟨0, by omega, fun j x h => absurd h (by omega), ?_⟩ ?_
  · simp only [normR, keepR, Nat.reduceAdd, lkR, Nat.reduceBEq, F_all, List.map_nil]
    rfl
  rintro m S ⟨i, him, hj, rfl⟩
  have zi : (0 ≤ (i : Int)) = True := eq_true (by omega)
  rcases Nat.lt_or_ge i l.length with h | h
  · have hlt : ((i : Int) < (l.length : Int)) = True := eq_true (by omega)
    have ga := List.getElem?_eq_getElem h
    have hsx := hs1 l[i] (List.getElem_mem h)
    generalize l[i] = x at ga hsx
    by_cases c1 : x.name.length ≤ 60
    rotate_left 1
    · have e1 : ((x.name.length : Int) ≤ 60) = False := eq_false (by omega)
      have e1' : (60 < (x.name.length : Int)) = True := eq_true (by omega)
      have hn : smK ⟨l, d⟩ = false := by rw [hr, all_false ga (decide_eq_false fun h => c1 h.1)]; rfl
      simp (maxSteps := 400000) only [↓preZ, postZ, coreZ, ↓preF, postF, D_all, F_all, unR, outL, onePV, binS, ↓binS, boundR, ↓boundR, fieldOf, ↓fieldOf, boxR, allocR, newObj, zeroElem, buildSliceR, appendR, setAll, storeR, St.freeze, makeSliceR, minmaxR, makeFuncR, BEq.rfl, reduceIte, reduceCtorEq, Nat.reduceLT, Nat.reduceAdd, Nat.reduceSub, Nat.reduceMul, Nat.reduceBEq, Nat.reduceLeDiff, Int.reduceToNat, Int.reduceLE, hQ, hlt, zi, ga, e1, e1', hn]
    have e1 : ((x.name.length : Int) ≤ 60) = True := eq_true (by omega)
    have e1' : (60 < (x.name.length : Int)) = False := eq_false (by omega)
    by_cases c2 : x.s.length ≤ 2000
    rotate_left 1
    · have e2 : ((x.s.length : Int) ≤ 2000) = False := eq_false (by omega)
      have e2' : (2000 < (x.s.length : Int)) = True := eq_true (by omega)
      have hn : smK ⟨l, d⟩ = false := by rw [hr, all_false ga (decide_eq_false fun h => c2 h.2)]; rfl
      simp (maxSteps := 400000) only [↓preZ, postZ, coreZ, ↓preF, postF, D_all, F_all, unR, outL, onePV, binS, ↓binS, boundR, ↓boundR, fieldOf, ↓fieldOf, boxR, allocR, newObj, zeroElem, buildSliceR, appendR, setAll, storeR, St.freeze, makeSliceR, minmaxR, makeFuncR, BEq.rfl, reduceIte, reduceCtorEq, Nat.reduceLT, Nat.reduceAdd, Nat.reduceSub, Nat.reduceMul, Nat.reduceBEq, Nat.reduceLeDiff, Int.reduceToNat, Int.reduceLE, hQ, hlt, zi, ga, e1, e1', e2, e2', hn]
    have e2 : ((x.s.length : Int) ≤ 2000) = True := eq_true (by omega)
    have e2' : (2000 < (x.s.length : Int)) = False := eq_false (by omega)
    simp (maxSteps := 400000) only [↓preZ, postZ, coreZ, ↓preF, postF, D_all, F_all, unR, outL, onePV, binS, ↓binS, boundR, ↓boundR, fieldOf, ↓fieldOf, boxR, allocR, newObj, zeroElem, buildSliceR, appendR, setAll, storeR, St.freeze, makeSliceR, minmaxR, makeFuncR, BEq.rfl, reduceIte, reduceCtorEq, Nat.reduceLT, Nat.reduceAdd, Nat.reduceSub, Nat.reduceMul, Nat.reduceBEq, Nat.reduceLeDiff, Int.reduceToNat, Int.reduceLE, hQ, hlt, zi, ga, e1, e1', e2, e2']
    refine ⟨⟨by omega, by omega⟩, m - 1, by omega, i + 1, by omega, ?_, rfl⟩
    intro j f hji hf
    by_cases hjj : j = i
    · subst hjj; rw [ga] at hf; cases hf; exact decide_eq_true ⟨c1, c2⟩
    · exact hj j f (by omega) hf
  have hlt : ((i : Int) < (l.length : Int)) = False := eq_false (by omega)
  rw [all_true (fun j x hx => hj j x (by have := (List.getElem?_eq_some_iff.1 hx).1; omega) hx), Bool.true_and] at hr
  simp (maxSteps := 400000) only [↓preZ, postZ, coreZ, ↓preF, postF, D_all, F_all, unR, outL, onePV, binS, ↓binS, boundR, ↓boundR, fieldOf, ↓fieldOf, boxR, allocR, newObj, zeroElem, buildSliceR, appendR, setAll, storeR, St.freeze, makeSliceR, minmaxR, makeFuncR, BEq.rfl, reduceIte, reduceCtorEq, Nat.reduceLT, Nat.reduceAdd, Nat.reduceSub, Nat.reduceMul, Nat.reduceBEq, Nat.reduceLeDiff, Int.reduceToNat, Int.reduceLE, hQ, hlt]
  clear hj hlt h him zi
  refine wpc_loop (fun m S => ∃ i : Nat, i + m = d.length ∧ (∀ (j : Nat) (x : De), j < i → d[j]? = some x → smX x = true) ∧ S = ⟨tmA 65 [(1, .addr (encK ⟨l, d⟩)), (4, .int .i64 i)], []⟩) d.length ⟨0, by omega, fun j x h => absurd h (by omega), ?_⟩ ?_
  · simp only [normR, keepR, Nat.reduceAdd, lkR, Nat.reduceBEq, F_all, List.map_nil]
    rfl
  rintro m S ⟨i, him, hj, rfl⟩
  have zi : (0 ≤ (i : Int)) = True := eq_true (by omega)
  rcases Nat.lt_or_ge i d.length with h | h
  · have hlt : ((i : Int) < (d.length : Int)) = True := eq_true (by omega)
    have ga := List.getElem?_eq_getElem h
    have hsx := hs2 d[i] (List.getElem_mem h)
    generalize d[i] = x at ga hsx
    have hsx1 := hsx.1
    have hsx2 := hsx.2
    by_cases c1 : x.name.length ≤ 60
    rotate_left 1
    · have e1 : ((x.name.length : Int) ≤ 60) = False := eq_false (by omega)
      have e1' : (60 < (x.name.length : Int)) = True := eq_true (by omega)
      have hn : smK ⟨l, d⟩ = false := by rw [hr, all_false ga (decide_eq_false fun h => c1 h.1)]
      simp (maxSteps := 400000) only [↓preZ, postZ, coreZ, ↓preF, postF, D_all, F_all, unR, outL, onePV, binS, ↓binS, boundR, ↓boundR, fieldOf, ↓fieldOf, boxR, allocR, newObj, zeroElem, buildSliceR, appendR, setAll, storeR, St.freeze, makeSliceR, minmaxR, makeFuncR, BEq.rfl, reduceIte, reduceCtorEq, Nat.reduceLT, Nat.reduceAdd, Nat.reduceSub, Nat.reduceMul, Nat.reduceBEq, Nat.reduceLeDiff, Int.reduceToNat, Int.reduceLE, hQ, hlt, zi, ga, e1, e1', hn]
    have e1 : ((x.name.length : Int) ≤ 60) = True := eq_true (by omega)
    have e1' : (60 < (x.name.length : Int)) = False := eq_false (by omega)
    by_cases c2 : x.s.length ≤ 2000
    rotate_left 1
    · have e2 : ((x.s.length : Int) ≤ 2000) = False := eq_false (by omega)
      have e2' : (2000 < (x.s.length : Int)) = True := eq_true (by omega)
      have hn : smK ⟨l, d⟩ = false := by rw [hr, all_false ga (decide_eq_false fun h => c2 h.2)]
      simp (maxSteps := 400000) only [↓preZ, postZ, coreZ, ↓preF, postF, D_all, F_all, unR, outL, onePV, binS, ↓binS, boundR, ↓boundR, fieldOf, ↓fieldOf, boxR, allocR, newObj, zeroElem, buildSliceR, appendR, setAll, storeR, St.freeze, makeSliceR, minmaxR, makeFuncR, BEq.rfl, reduceIte, reduceCtorEq, Nat.reduceLT, Nat.reduceAdd, Nat.reduceSub, Nat.reduceMul, Nat.reduceBEq, Nat.reduceLeDiff, Int.reduceToNat, Int.reduceLE, hQ, hlt, zi, ga, e1, e1', e2, e2', hn]
    have e2 : ((x.s.length : Int) ≤ 2000) = True := eq_true (by omega)
    have e2' : (2000 < (x.s.length : Int)) = False := eq_false (by omega)
    simp (maxSteps := 400000) only [↓preZ, postZ, coreZ, ↓preF, postF, D_all, F_all, unR, outL, onePV, binS, ↓binS, boundR, ↓boundR, fieldOf, ↓fieldOf, boxR, allocR, newObj, zeroElem, buildSliceR, appendR, setAll, storeR, St.freeze, makeSliceR, minmaxR, makeFuncR, BEq.rfl, reduceIte, reduceCtorEq, Nat.reduceLT, Nat.reduceAdd, Nat.reduceSub, Nat.reduceMul, Nat.reduceBEq, Nat.reduceLeDiff, Int.reduceToNat, Int.reduceLE, hQ, hlt, zi, ga, e1, e1', e2, e2']
    refine ⟨⟨by omega, by omega⟩, m - 1, by omega, i + 1, by omega, ?_, rfl⟩
    intro j f hji hf
    by_cases hjj : j = i
    · subst hjj; rw [ga] at hf; cases hf; exact decide_eq_true ⟨c1, c2⟩
    · exact hj j f (by omega) hf
  have hlt : ((i : Int) < (d.length : Int)) = False := eq_false (by omega)
  rw [all_true (fun j x hx => hj j x (by have := (List.getElem?_eq_some_iff.1 hx).1; omega) hx)] at hr
  simp (maxSteps := 400000) only [↓preZ, postZ, coreZ, ↓preF, postF, D_all, F_all, unR, outL, onePV, binS, ↓binS, boundR, ↓boundR, fieldOf, ↓fieldOf, boxR, allocR, newObj, zeroElem, buildSliceR, appendR, setAll, storeR, St.freeze, makeSliceR, minmaxR, makeFuncR, BEq.rfl, reduceIte, reduceCtorEq, Nat.reduceLT, Nat.reduceAdd, Nat.reduceSub, Nat.reduceMul, Nat.reduceBEq, Nat.reduceLeDiff, Int.reduceToNat, Int.reduceLE, hQ, hlt, hr]

/-- A disk of texts no longer than any text is. -/
def okT (k : Dk) : Prop := (∀ f ∈ k.l, f.name.length ≤ 4611686018427387904 ∧ f.s.length ≤ 4611686018427387904) ∧ ∀ x ∈ k.d, okX x

def ctrSmall : Ctr := fun args objs K => match args with
  | [a0] => ofE encK a0 (HK.mk : HK fun k => (okK k) ∧ (okT k) ∧ K (.bool (smK k)) objs 0)
  | _ => False
theorem ctrSmall_ok : CtrOk Try.prog f_louperef23_Small (ctrSmall) := by
  intro args objs K h
  unfold ctrSmall at h
  split at h
  · rename_i a0
    obtain ⟨k, rfl, h1, h2, hk⟩ := h
    exact ⟨_, _, _, .pure _ rfl (small_spec k h1 h2), hk⟩
  · exact h.elim

end Lp

/-! LpW43 -/

namespace Lp
open Go Go.Proofs

set_option maxHeartbeats 4000000
set_option maxRecDepth 20000
set_option linter.unusedSimpArgs false

def objF (l : List Fl) : Obj := ⟨t_api_File, 2, l.map encF, true, 0⟩

theorem noRefs_objF (l : List Fl) : NoRefs [objF l] := by
  intro o ho x hx p hp
  simp only [List.mem_singleton] at ho
  subst ho
  simp only [objF, List.mem_map] at hx
  obtain ⟨n, _, rfl⟩ := hx
  simp only [encF, PV.cells, List.mem_cons, List.not_mem_nil, or_false] at hp
  rcases hp with rfl | rfl <;> rfl

theorem atoms_objF (l : List Fl) : ∀ x ∈ (objF l).xs, ∀ p ∈ x.cells, p.atom = true := by
  intro x hx p hp
  simp only [objF, List.mem_map] at hx
  obtain ⟨n, _, rfl⟩ := hx
  simp only [encF, PV.cells, List.mem_cons, List.not_mem_nil, or_false] at hp
  rcases hp with rfl | rfl <;> rfl

theorem encF_cells (n : Fl) : (encF n).cells.length = 2 ∧ (encF n).cells.all PV.storable = true := ⟨rfl, rfl⟩

theorem map_frzF (d n : Nat) (objs : List Obj) (v : List Fl) : (v.map encF).map (PV.mapCells (frz d n objs)) = v.map encF := by
  rw [List.map_map]
  exact List.map_congr_left fun x _ => rfl

theorem cloneF_nil : FnSpec Try.prog f_slices_Clone_L_api_File_api_File_ [.sl 2 [] (some true)] [] (.osl 0 0) [objF []] := by
  refine k_slices_Clone_L_api_File_api_File_.made (T := tabL Try.prog []) 0 hD (kOk_tabL tabOk_nil) hmix ?_
  simp only [c_slices_Clone_L_api_File_api_File_, ↓wpR, knR, ↓lrR, ↓exR, ↓guR, stR, ↓opsR, retMR, frR, Nat.reduceAdd, Nat.reduceSub, tmR, fgR, D_all, biR, biI, inRR, builtinR', forall_const, reduceCtorEq, false_imp_iff, and_true, TK.slice.injEq, exists_eq', true_and]
  exact ⟨_, 0, 0, _, Weak.adopt 2 t_api_File 2 rfl, rfl, rfl, rfl, rfl, rfl, noRefs_objF []⟩

theorem cloneF_some (v : List Fl) (hv : v.length ≤ 1000000) : FnSpec Try.prog f_slices_Clone_L_api_File_api_File_ [.sl 2 (v.map encF) (some false)] [] (.osl 0 0) [objF v] := by
  refine k_slices_Clone_L_api_File_api_File_.made (T := tabL Try.prog []) 0 hD (kOk_tabL tabOk_nil) hmix ?_
  simp only [c_slices_Clone_L_api_File_api_File_, ↓wpR, knR, ↓lrR, ↓exR, ↓guR, stR, ↓opsR, retMR, frR, Nat.reduceAdd, Nat.reduceSub, tmR, fgR, D_all, biR, biI, inRR, builtinR', forall_const, reduceCtorEq, false_imp_iff, and_true, TK.slice.injEq, exists_eq', true_and]
  simp only [buildSliceR, appendR, srcR, newObj, setAll, D_all, ne_eq, reduceCtorEq, not_false_eq_true, true_and, if_true, List.all_nil, Nat.zero_mul, Nat.zero_le, List.nil_append, List.length_nil, List.getElem?_cons_zero, Option.some.injEq]
  refine ⟨rfl, rfl, rfl, rfl, ?_, _, rfl, rfl, rfl, rfl, rfl, ?_, ?_, fun _ _ h => h.elim, _, 0, 2, _, Weak.refl _ _, rfl, rfl, rfl, rfl, ?_, noRefs_objF v⟩
  · intro y hy
    obtain ⟨n, _, rfl⟩ := List.mem_map.1 hy
    exact encF_cells n
  · simp; omega
  · simp; omega
  · simp only [frzO, objF, List.replicate_zero, List.nil_append, map_frzF]

theorem cloneF_spec (v : List Fl) (hv : v.length ≤ 1000000) : FnSpec Try.prog f_slices_Clone_L_api_File_api_File_ [encFs v] [] (.osl 0 0) [objF v] :=
  FnSpec.split (pre := []) (post := []) (fun h => by
    have : v = [] := by simpa using h
    subst this
    exact cloneF_nil) (cloneF_some v hv)

theorem cvI (objs : List Obj) (K : KT) : (∀ x, convO D t_int t_uint (.int .i64 x) objs K = K (.int .u64 (IntKind.u64.wrap x)) objs 0) ∧ (∀ x, convO D t_uint t_int (.int .u64 x) objs K = K (.int .i64 (IntKind.i64.wrap x)) objs 0) := by
  refine ⟨fun x => ?_, fun x => ?_⟩
  all_goals simp [convO, convR, D_all]

theorem shR (a : Int) (K : PV → Prop) : binI .shr .u64 .u64 a 1 K = K (.int .u64 (a.fdiv 2)) := by
  have : min 1 IntKind.u64.bits = 1 := rfl
  simp [binI, this]

theorem ris_lt : ∀ {l : List Fl}, RisF l → ∀ {j k : Nat} {a b : Fl}, j < k → l[j]? = some a → l[k]? = some b → Op.bytesLess a.name b.name = true
  | [], _, j, k, a, b, _, ha, _ => by simp at ha
  | [x], _, j, k, a, b, hjk, ha, hb => by
    have h1 := (List.getElem?_eq_some_iff.1 hb).1
    simp at h1; omega
  | x :: y :: l, h, j, k, a, b, hjk, ha, hb => by
    obtain ⟨k, rfl⟩ : ∃ k', k = k' + 1 := ⟨k - 1, by omega⟩
    simp only [List.getElem?_cons_succ] at hb
    cases j with
    | succ j =>
      simp only [List.getElem?_cons_succ] at ha
      exact ris_lt h.2 (by omega) ha hb
    | zero =>
      simp only [List.getElem?_cons_zero, Option.some.injEq] at ha
      subst ha
      cases k with
      | zero =>
        simp only [List.getElem?_cons_zero, Option.some.injEq] at hb
        subst hb; exact h.1
      | succ k => exact bl_trans _ _ _ h.1 (ris_lt h.2 (j := 0) (by omega) rfl hb)

theorem posF_eq {l : List Fl} {s : List UInt8} {i : Nat} (hi : i ≤ l.length) (h1 : ∀ (k : Nat) (f : Fl), k < i → l[k]? = some f → Op.bytesLess f.name s = true) (h2 : ∀ f, l[i]? = some f → Op.bytesLess f.name s = false) : posF l s = i := by
  induction l generalizing i with
  | nil => simp at hi; subst hi; rfl
  | cons a l ih =>
    cases i with
    | zero =>
      have := h2 a rfl
      simp [posF, List.takeWhile_cons, this]
    | succ i =>
      have h0 := h1 0 a (by omega) rfl
      have := ih (i := i) (by simpa using hi) (fun k f hk hf => h1 (k + 1) f (by omega) (by simpa using hf)) (fun f hf => h2 f (by simpa using hf))
      simp only [posF, List.takeWhile_cons, h0, if_true, List.length_cons]
      unfold posF at this
      omega

theorem hasF_at {l : List Fl} {s : List UInt8} (hl : RisF l) {i : Nat} (h1 : ∀ (k : Nat) (f : Fl), k < i → l[k]? = some f → Op.bytesLess f.name s = true) (h2 : ∀ (k : Nat) (f : Fl), i ≤ k → l[k]? = some f → Op.bytesLess f.name s = false) :
    hasF l s = match l[i]? with
      | some f => decide (f.name = s)
      | none => false := by
  cases hi : l[i]? with
  | none =>
    have hlen : l.length ≤ i := by
      rcases Nat.lt_or_ge i l.length with h | h
      · rw [List.getElem?_eq_getElem h] at hi; cases hi
      · exact h
    rw [hasF, List.any_eq_false]
    intro f hf
    obtain ⟨k, hk, rfl⟩ := List.mem_iff_getElem.1 hf
    have := h1 k _ (by omega) (List.getElem?_eq_getElem hk)
    simp only [decide_eq_true_eq]
    intro e
    rw [e, bl_irrefl] at this; cases this
  | some f =>
    simp only []
    by_cases he : f.name = s
    · rw [decide_eq_true he, hasF, List.any_eq_true]
      exact ⟨f, List.mem_of_getElem? hi, decide_eq_true he⟩
    · rw [decide_eq_false he, hasF, List.any_eq_false]
      intro g hg
      obtain ⟨k, hk, rfl⟩ := List.mem_iff_getElem.1 hg
      simp only [decide_eq_true_eq]
      intro e
      rcases Nat.lt_trichotomy k i with h | h | h
      · have := h1 k _ h (List.getElem?_eq_getElem hk)
        rw [e, bl_irrefl] at this; cases this
      · subst h
        rw [List.getElem?_eq_getElem hk] at hi
        cases hi
        exact he e
      · have hlt := ris_lt hl h hi (List.getElem?_eq_getElem hk)
        have := h2 i f (Nat.le_refl _) hi
        rw [e] at hlt
        rw [hlt] at this; cases this

theorem bsearch_spec (l : List Fl) (s : List UInt8) (hl : RisF l) (hlen : l.length ≤ 1000000) : FnSpec Try.prog f_slices_BinarySearchFunc_L_api_File_api_File_string_ [encFs l, .str s, .fn f_file_byName [] []] [] (.tup [.int .i64 (posF l s), .bool (hasF l s)]) [] := by
  refine k_slices_BinarySearchFunc_L_api_File_api_File_string_.pureG2 (T := tabL Try.prog [(f_file_byName, ctrByName)]) 0 hD (kOk_tabL (tabOk_cons ctrByName_ok tabOk_nil)) hmix (by decide) (by decide) fun Q hQ => ?_
  try simp only [F_all]
  simp (maxSteps := 400000) only [↓preZ, postZ, coreZ, ↓preF, postF, D_all, F_all, unR, outL, onePV, binS, ↓binS, boundR, ↓boundR, fieldOf, ↓fieldOf, boxR, allocR, newObj, zeroElem, buildSliceR, appendR, setAll, storeR, St.freeze, makeSliceR, minmaxR, makeFuncR, BEq.rfl, reduceIte, reduceCtorEq, Nat.reduceLT, Nat.reduceAdd, Nat.reduceSub, Nat.reduceMul, Nat.reduceBEq, Nat.reduceLeDiff, Int.reduceToNat, Int.reduceLE, hQ, c_slices_BinarySearchFunc_L_api_File_api_File_string_]
  refine wpc_loop (fun m S => ∃ i j : Nat, i ≤ j ∧ j ≤ l.length ∧ m = j - i ∧ (∀ (k : Nat) (f : Fl), k < i → l[k]? = some f → Op.bytesLess f.name s = true) ∧ (∀ (k : Nat) (f : Fl), j ≤ k → l[k]? = some f → Op.bytesLess f.name s = false) ∧
    S = ⟨tmA 49 [(0, encFs l), (1, .str s), (2, .fn f_file_byName [] []), (8, .int .i64 l.length), (9, .int .i64 i), (10, .int .i64 j)], []⟩) l.length ⟨0, l.length, by omega, by omega, by omega, fun k f h => absurd h (by omega), (fun k f h hf => absurd (List.getElem?_eq_some_iff.1 hf).1 (by omega)), ?_⟩ ?_
  · simp only [normR, keepR, Nat.reduceAdd, lkR, Nat.reduceBEq, F_all, List.map_nil]
    rfl
  rintro m S ⟨i, j, hij, hjl, hm, h1, h2, rfl⟩
  rcases Nat.lt_or_ge i j with h | h
  · have hlt : ((i : Int) < (j : Int)) = True := eq_true (by omega)
    have w1 : IntKind.u64.wrap ((i : Int) + (j : Int)) = (i : Int) + (j : Int) := wrap_inR (k := .u64) (by simp only [inR]; omega)
    obtain ⟨c, hc⟩ : ∃ c, c = (i + j) / 2 := ⟨_, rfl⟩
    have hci : i ≤ c := by omega
    have hcj : c < j := by omega
    have w2 : ((i : Int) + (j : Int)).fdiv 2 = (c : Int) := by
      rw [Int.fdiv_eq_ediv_of_nonneg _ (by omega)]; omega
    have w3 : IntKind.i64.wrap (c : Int) = (c : Int) := wrap_inR (k := .i64) (by simp only [inR]; omega)
    have ga : l[c]? = some (l[c]'(by omega)) := List.getElem?_eq_getElem (by omega)
    generalize l[c]'(by omega) = x at ga
    have zc : (0 ≤ (c : Int)) = True := eq_true (by omega)
    have r1 : (-9223372036854775808 ≤ (i : Int) + (j : Int) ∧ (i : Int) + (j : Int) ≤ 9223372036854775807) = True := eq_true ⟨by omega, by omega⟩
    rcases cmpS_cases x.name s with ⟨e1, e2⟩ | ⟨e1, e2⟩ | ⟨e1, e2⟩
    · have d1 : (cmpS x.name s < 0) = True := eq_true (by omega)
      simp (maxSteps := 400000) only [↓preZ, postZ, coreZ, ↓preF, postF, D_all, F_all, unR, outL, onePV, binS, ↓binS, boundR, ↓boundR, fieldOf, ↓fieldOf, boxR, allocR, newObj, zeroElem, buildSliceR, appendR, setAll, storeR, St.freeze, makeSliceR, minmaxR, makeFuncR, BEq.rfl, reduceIte, reduceCtorEq, Nat.reduceLT, Nat.reduceAdd, Nat.reduceSub, Nat.reduceMul, Nat.reduceBEq, Nat.reduceLeDiff, Int.reduceToNat, Int.reduceLE, hQ, hlt, cvI, w1, shR, w2, w3, ga, zc, ↓ctrByName, d1, r1]
      refine ⟨⟨by omega, by omega⟩, j - (c + 1), by omega, c + 1, j, by omega, hjl, rfl, ?_, h2, rfl⟩
      intro k f hk hf
      rcases Nat.lt_or_ge k c with hkc | hkc
      · exact bl_trans _ _ _ (ris_lt hl hkc hf ga) e1
      · have : k = c := by omega
        subst this
        rw [ga] at hf; cases hf; exact e1
    all_goals
      have d1 : (cmpS x.name s < 0) = False := eq_false (by omega)
      have nx : Op.bytesLess x.name s = false := by first | (rw [e1, bl_irrefl]) | exact bl_asymm _ _ e1
      simp (maxSteps := 400000) only [↓preZ, postZ, coreZ, ↓preF, postF, D_all, F_all, unR, outL, onePV, binS, ↓binS, boundR, ↓boundR, fieldOf, ↓fieldOf, boxR, allocR, newObj, zeroElem, buildSliceR, appendR, setAll, storeR, St.freeze, makeSliceR, minmaxR, makeFuncR, BEq.rfl, reduceIte, reduceCtorEq, Nat.reduceLT, Nat.reduceAdd, Nat.reduceSub, Nat.reduceMul, Nat.reduceBEq, Nat.reduceLeDiff, Int.reduceToNat, Int.reduceLE, hQ, hlt, cvI, w1, shR, w2, w3, ga, zc, ↓ctrByName, d1, r1]
      refine ⟨c - i, by omega, i, c, by omega, by omega, rfl, h1, ?_, rfl⟩
      intro k f hk hf
      rcases Nat.lt_or_ge c k with hkc | hkc
      · cases hb : Op.bytesLess f.name s with
        | false => rfl
        | true => rw [bl_trans _ _ _ (ris_lt hl hkc ga hf) hb] at nx; cases nx
      · have : k = c := by omega
        subst this
        rw [ga] at hf; cases hf; exact nx
  have hlt : ((i : Int) < (j : Int)) = False := eq_false (by omega)
  have hji : j = i := by omega
  subst hji
  have hp := posF_eq hjl h1 (fun f hf => h2 j f (Nat.le_refl _) hf)
  have hh := hasF_at hl h1 h2
  have zc : (0 ≤ (j : Int)) = True := eq_true (by omega)
  rcases Nat.lt_or_ge j l.length with h' | h'
  · have ga := List.getElem?_eq_getElem h'
    generalize l[j] = x at ga
    rw [ga] at hh
    simp only [] at hh
    have hl2 : ((j : Int) < (l.length : Int)) = True := eq_true (by omega)
    have d0 : (cmpS x.name s = 0) = (x.name = s) := by
      apply propext
      rcases cmpS_cases x.name s with ⟨e1, e2⟩ | ⟨e1, e2⟩ | ⟨e1, e2⟩
      · exact ⟨fun h => by omega, fun h => by rw [h, bl_irrefl] at e1; cases e1⟩
      · exact ⟨fun _ => e1, fun _ => e2⟩
      · exact ⟨fun h => by omega, fun h => by rw [h, bl_irrefl] at e1; cases e1⟩
    simp (maxSteps := 400000) only [↓preZ, postZ, coreZ, ↓preF, postF, D_all, F_all, unR, outL, onePV, binS, ↓binS, boundR, ↓boundR, fieldOf, ↓fieldOf, boxR, allocR, newObj, zeroElem, buildSliceR, appendR, setAll, storeR, St.freeze, makeSliceR, minmaxR, makeFuncR, BEq.rfl, reduceIte, reduceCtorEq, Nat.reduceLT, Nat.reduceAdd, Nat.reduceSub, Nat.reduceMul, Nat.reduceBEq, Nat.reduceLeDiff, Int.reduceToNat, Int.reduceLE, hQ, hlt, hl2, zc, ga, ↓ctrByName, d0, hp, hh]
  · have hl2 : ((j : Int) < (l.length : Int)) = False := eq_false (by omega)
    rw [List.getElem?_eq_none h'] at hh
    simp only [] at hh
    simp (maxSteps := 400000) only [↓preZ, postZ, coreZ, ↓preF, postF, D_all, F_all, unR, outL, onePV, binS, ↓binS, boundR, ↓boundR, fieldOf, ↓fieldOf, boxR, allocR, newObj, zeroElem, buildSliceR, appendR, setAll, storeR, St.freeze, makeSliceR, minmaxR, makeFuncR, BEq.rfl, reduceIte, reduceCtorEq, Nat.reduceLT, Nat.reduceAdd, Nat.reduceSub, Nat.reduceMul, Nat.reduceBEq, Nat.reduceLeDiff, Int.reduceToNat, Int.reduceLE, hQ, hlt, hl2, hp, hh]

def ctrBSearch : Ctr := fun args objs K => match args with
  | [a0, .str s, a2] => ofE encFs a0 (HK.mk : HK fun l => a2 = (.fn f_file_byName [] []) ∧ (RisF l) ∧ (l.length ≤ 1000000) ∧ K (.tup [.int .i64 (posF l s), .bool (hasF l s)]) objs 0)
  | _ => False
theorem ctrBSearch_ok : CtrOk Try.prog f_slices_BinarySearchFunc_L_api_File_api_File_string_ (ctrBSearch) := by
  intro args objs K h
  unfold ctrBSearch at h
  split at h
  · rename_i a0 s a2
    obtain ⟨l, rfl, rfl, h1, h2, hk⟩ := h
    exact ⟨_, _, _, .pure _ rfl (bsearch_spec l s h1 h2), hk⟩
  · exact h.elim

theorem ffind_spec (l : List Fl) (s : List UInt8) (hl : RisF l) (hlen : l.length ≤ 1000000) : FnSpec Try.prog f_file_find [encFs l, .str s] [] (.tup [.int .i64 (posF l s), .bool (hasF l s)]) [] := by
  refine k_file_find.pureG2 (T := tabL Try.prog [(f_slices_BinarySearchFunc_L_api_File_api_File_string_, ctrBSearch)]) 0 hD (kOk_tabL (tabOk_cons ctrBSearch_ok tabOk_nil)) hmix (by decide) (by decide) fun Q hQ => ?_
  try simp only [F_all]
  simp (maxSteps := 400000) only [↓preZ, postZ, coreZ, ↓preF, postF, D_all, F_all, unR, outL, onePV, binS, ↓binS, boundR, ↓boundR, fieldOf, ↓fieldOf, boxR, allocR, newObj, zeroElem, buildSliceR, appendR, setAll, storeR, St.freeze, makeSliceR, minmaxR, makeFuncR, BEq.rfl, reduceIte, reduceCtorEq, Nat.reduceLT, Nat.reduceAdd, Nat.reduceSub, Nat.reduceMul, Nat.reduceBEq, Nat.reduceLeDiff, Int.reduceToNat, Int.reduceLE, hQ, c_file_find, ↓ctrBSearch, hl, hlen]

end Lp

/-! LpF1 -/

namespace Lp
open Go Go.Proofs Go.Lib Go.RowKit

section
variable {P : Program}

/-- A copy onto a block of plain memory, elements of any size. -/
theorem run_copy_rowZ (w : World) (dT sT ty elem : TypeId) (inf : TypeInfo) (g o dLen dCap : Nat) (a : Addr) (sLen sCap n : Nat) (cur : Array Value) (t : TypeId) (cs : List Value)
    (hu : P.underlying dT = some (.slice elem)) (hi : P.info? elem = some inf) (hg : w.heap[g]? = some (.cells cur t (0, 0))) (hn : n = Nat.min sLen dLen) (hl : cs.length = n * inf.size)
    (hsrc : ∀ j v, cs[j]? = some v → w.cell? (a.add j) = some v) (hfit : o + cs.length ≤ cur.size) (h1 : ∀ v ∈ cs, v.oneCell' = true) :
    (Builtin.copy_ #[dT, sT] ty #[.slice (some ⟨g, o, none⟩) dLen dCap, .slice (some a) sLen sCap]).run P w =
      .ok (goInt n) (w.setRow g (cur.toList.take o ++ cs ++ cur.toList.drop (o + cs.length)).toArray) := by
  have h2 := run_loadCells_list (P := P) w a cs hsrc
  have hst := run_storeCells_at P g o t cs 0 cur w hg (by simpa using hfit) h1
  rw [hl] at h2
  rw [hn] at h2
  simp only [Nat.min_def] at h2
  simp [Builtin.copy_, run_underlying hu, Builtin.lenOf, Builtin.firstCells, Go.sizeOf, typeInfo, hi, hn, Nat.min_def, h2, hst]

theorem frozen_row {w : World} {g : Nat} {cur : Array Value} {t : TypeId} (hg : w.heap[g]? = some (.cells cur t (0, 0))) (o : Nat) : w.frozen? ⟨g, o, none⟩ = false := by
  simp [World.frozen?, hg]

end

set_option maxHeartbeats 4000000 in
set_option maxRecDepth 100000 in
/-- In place: what stands from i on goes one on, the new one stands at i. -/
theorem ins_shift (g n c i vb voff vc : Nat) (cur : Array Value) (s1 s2 : Value) (w : World) (hi : i < n) (hroom : n + 1 ≤ c) (hc63 : c ≤ 9223372036854775807)
    (hg : w.heap[g]? = some (.cells cur 91 (0, 0))) (hcur : cur.size = c * 2) (hx1 : w.cell? ⟨vb, voff, none⟩ = some s1) (hx2 : w.cell? ⟨vb, voff + 1, none⟩ = some s2) (hvb : vb ≠ g) (curv : Array Value) (tv : TypeId) (hgv : w.heap[vb]? = some (.cells curv tv (0, 0)))
    (o1 : s1.oneCell' = true) (o2 : s2.oneCell' = true) (oc : ∀ v ∈ (cur.toList.take (n * 2)).drop (i * 2), v.oneCell' = true)
    (cur1 cur2 : Array Value) (hc1 : cur1 = (cur.toList.take ((i + 1) * 2) ++ (cur.toList.take (n * 2)).drop (i * 2) ++ cur.toList.drop ((i + 1) * 2 + ((cur.toList.take (n * 2)).drop (i * 2)).length)).toArray)
    (hc2 : cur2 = (cur1.toList.take (i * 2) ++ [s1, s2] ++ cur1.toList.drop (i * 2 + 2)).toArray) :
    Calls Try.prog 111 #[.slice (some ⟨g, 0, none⟩) n c, .int .i64 i, .slice (some ⟨vb, voff, none⟩) 1 vc] w fun e w' =>
      e = .returned (.slice (some ⟨g, 0, none⟩) (n + 1) c) ∧ w' = (w.drew.setRow g cur1).setRow g cur2 := by
  have mixed : Try.prog.follows .mixedOrders = true := by kernel_rfl
  have hz2 : ¬ ((i : Int) = (n : Int)) := by omega
  have hov : ∀ off lb cb, (callFunc 115 #[.slice (some ⟨vb, voff, none⟩) 1 vc, .slice (some ⟨g, off, none⟩) lb cb]).run Try.prog w = .ok (.value (.bool false)) w := fun off lb cb => by
    rw [run_callFunc_extern Try.func115 (by kernel_rfl) (by kernel_rfl) (by kernel_rfl) (e := Extern.SlicesOverlaps.overlaps #[50, 50] #[4]) (by kernel_rfl),
      Lib.run_overlaps_apart w 50 4 91 Try.underlying50 2 Try.sizeOf91 ⟨vb, voff, none⟩ ⟨g, off, none⟩ 1 vc lb cb hvb tv 91 curv.size cur.size (by simp [World.shape?, hgv]) (by simp [World.shape?, hg]) (by omega) (frozen_row hgv _) (frozen_row hgv _)]
    rfl
  obtain ⟨inf, hi0, hz0, hzs, hzb⟩ : ∃ inf, Try.prog.info? 91 = some inf ∧ inf.zero = some (.agg #[.string ⟨#[]⟩, .string ⟨#[]⟩]) ∧ inf.size = 2 ∧ inf.bytes = 32 := ⟨_, rfl, rfl, rfl, rfl⟩
  have hcl : ((cur.toList.take (n * 2)).drop (i * 2)).length = (n - i) * 2 := by simp [hcur]; omega
  have hg' : w.drew.heap[g]? = some (.cells cur 91 (0, 0)) := hg
  have hcp1 : ∀ ty dc sc, (Builtin.copy_ #[50, 50] ty #[.slice (some ⟨g, (i + 1) * 2, none⟩) (n - i) dc, .slice (some ⟨g, i * 2, none⟩) (n + 1 - i) sc]).run Try.prog w.drew = .ok (goInt (n - i : Nat)) (w.drew.setRow g cur1) := fun ty dc sc => by
    rw [hc1]
    refine run_copy_rowZ w.drew 50 50 ty 91 inf g ((i + 1) * 2) (n - i) dc ⟨g, i * 2, none⟩ (n + 1 - i) sc (n - i) cur 91 _ Try.underlying50 hi0 hg' (by simp only [Nat.min_def]; split <;> omega) (by rw [hzs]; exact hcl) (fun j v hj => ?_) (by rw [hcl, hcur]; omega) oc
    rw [Addr.add_lit]
    simp only [World.cell?, hg']
    rw [List.getElem?_drop, List.getElem?_take] at hj
    split at hj
    · simpa using hj
    · cases hj
  have hc1s : cur1.size = c * 2 := by rw [hc1]; simp [hcur]; omega
  have hg1 : (w.drew.setRow g cur1).heap[g]? = some (.cells cur1 91 (0, 0)) := setRow_heap w.drew g cur cur1 91 (0, 0) hg'
  have hcp2 : ∀ ty dc, (Builtin.copy_ #[50, 50] ty #[.slice (some ⟨g, i * 2, none⟩) (n + 1 - i) dc, .slice (some ⟨vb, voff, none⟩) 1 vc]).run Try.prog (w.drew.setRow g cur1) = .ok (goInt (1 : Nat)) ((w.drew.setRow g cur1).setRow g cur2) := fun ty dc => by
    rw [hc2]
    refine run_copy_rowZ _ 50 50 ty 91 inf g (i * 2) (n + 1 - i) dc ⟨vb, voff, none⟩ 1 vc 1 cur1 91 [s1, s2] Try.underlying50 hi0 hg1 (by simp only [Nat.min_def]; split <;> omega) (by rw [hzs]; rfl) (fun j v hj => ?_) (by simp [hc1s]; omega) (fun v hv => ?_)
    · rw [Addr.add_lit]
      have e : (w.drew.setRow g cur1).heap[vb]? = w.heap[vb]? := setRow_other w.drew g vb cur1 hvb
      have : (w.drew.setRow g cur1).cell? ⟨vb, voff + j, none⟩ = w.cell? ⟨vb, voff + j, none⟩ := by simp only [World.cell?, e]
      rw [this]
      match j, hj with
      | 0, hj => rw [Nat.add_zero, hx1]; simpa using hj
      | 1, hj => rw [hx2]; simpa using hj
      | _ + 2, hj => simp at hj
    · rcases List.mem_cons.1 hv with rfl | hv
      · exact o1
      · rcases List.mem_cons.1 hv with rfl | hv
        · exact o2
        · cases hv
  have hw1 : IntKind.i64.wrap ((i : Int) + 1) = (i : Int) + 1 := by rw [IntKind.wrap_i64]; omega
  have hb1 : (0 : Int) ≤ (i : Int) + 1 := by omega
  have hin : i ≤ n := by omega
  have htn : ((i : Int) + 1).toNat = i + 1 := by omega
  have hb2 : ¬ (c = i + 1) := by omega
  have hb3 : (i : Int) ≤ (n : Int) + 1 := by omega
  have hb4 : ¬ (c = i) := by omega
  have hb5 : n + 1 - (i + 1) = n - i := by omega
  clear hc1 hc2 hcl hc1s
  go_enter Try.func111, Try.ntmps111
  go_wp2_with (simp only [hov])
  go_region_law_o (refine step_copy_runI rfl _ _ 50 50 rfl _ _ (by simp [Act.eval, Act.put]) (by simp [Act.eval, Act.put]) (hcp1 _ _ _) ?_)
  go_wp2_with (at_builtin; refine wpList_copy_runI _ rfl _ _ 50 50 rfl _ _ rfl rfl (hcp2 _ _) ?_)
  go_ret
  exact ⟨rfl, rfl⟩

set_option maxHeartbeats 4000000 in
set_option maxRecDepth 100000 in
/-- At the end: an append. -/
theorem ins_end (base : Option Addr) (n c vb voff vc : Nat) (w w' : World) (v' : Value) (hnil : base = none → n = 0 ∧ c = 0) (hnc : n ≤ c) (hc63 : c ≤ 9223372036854775807)
    (hrun : ∀ ty, (Builtin.append_ #[50, 50] ty #[.slice base n c, .slice (some ⟨vb, voff, none⟩) 1 vc]).run Try.prog w = .ok v' w') :
    Calls Try.prog 111 #[.slice base n c, .int .i64 n, .slice (some ⟨vb, voff, none⟩) 1 vc] w fun e w1 => e = .returned v' ∧ w1 = w' := by
  have mixed : Try.prog.follows .mixedOrders = true := by kernel_rfl
  cases base with
  | none =>
    obtain ⟨rfl, rfl⟩ := hnil rfl
    go_enter Try.func111, Try.ntmps111
    go_wp2_with (at_builtin; refine Lib.wpList_append_run _ rfl _ _ _ _ rfl _ _ rfl rfl _ _ (hrun _) ?_)
    go_ret
    exact ⟨rfl, rfl⟩
  | some a =>
    obtain ⟨ab, ao, asp⟩ := a
    clear hnil
    go_enter Try.func111, Try.ntmps111
    go_wp2_with (at_builtin; refine Lib.wpList_append_run _ rfl _ _ _ _ rfl _ _ rfl rfl _ _ (hrun _) ?_)
    all_goals (go_ret; exact ⟨rfl, rfl⟩)

set_option maxHeartbeats 4000000 in
set_option maxRecDepth 100000 in
/-- No room: a new row. -/
theorem ins_grow (g n c i vb voff vc : Nat) (cur : Array Value) (s1 s2 : Value) (w : World) (hi : i < n) (hnc : n ≤ c) (hroom : c < n + 1) (hbig : (n + 1) * 32 ≤ 140737488355328)
    (hg : w.heap[g]? = some (.cells cur 91 (0, 0))) (hcur : cur.size = c * 2) (hx1 : w.cell? ⟨vb, voff, none⟩ = some s1) (hx2 : w.cell? ⟨vb, voff + 1, none⟩ = some s2) (hvb : vb < w.heap.size)
    (o1 : s1.oneCell' = true) (o2 : s2.oneCell' = true) (oc : ∀ v ∈ (cur.toList.take (n * 2)).drop (i * 2), v.oneCell' = true) (G : Nat) (hG : G = grownCap w (n + 1) c 91)
    (row cur1 cur2 : Array Value) (hrow : row = (cur.toList.take (i * 2)).toArray ++ Builtin.zeroCells (Value.agg #[.string ⟨#[]⟩, .string ⟨#[]⟩]).cells (n + 1 - i) ++ Builtin.zeroCells (Value.agg #[.string ⟨#[]⟩, .string ⟨#[]⟩]).cells (G - (n + 1)))
    (hc1 : cur1 = (row.toList.take (i * 2) ++ [s1, s2] ++ row.toList.drop (i * 2 + 2)).toArray)
    (hc2 : cur2 = (cur1.toList.take ((i + 1) * 2) ++ (cur.toList.take (n * 2)).drop (i * 2) ++ cur1.toList.drop ((i + 1) * 2 + ((cur.toList.take (n * 2)).drop (i * 2)).length)).toArray) :
    Calls Try.prog 111 #[.slice (some ⟨g, 0, none⟩) n c, .int .i64 i, .slice (some ⟨vb, voff, none⟩) 1 vc] w fun e w' =>
      e = .returned (.slice (some ⟨w.heap.size, 0, none⟩) (n + 1) G) ∧
      w' = ((((w.drew.alloc (.cells row 91)).setRow w.heap.size cur1).drew).setRow w.heap.size cur2) := by
  have mixed : Try.prog.follows .mixedOrders = true := by kernel_rfl
  obtain ⟨inf, hi0, hz0, hzs, hzb⟩ : ∃ inf, Try.prog.info? 91 = some inf ∧ inf.zero = some (.agg #[.string ⟨#[]⟩, .string ⟨#[]⟩]) ∧ inf.size = 2 ∧ inf.bytes = 32 := ⟨_, rfl, rfl, rfl, rfl⟩
  have hgw : g < w.heap.size := (Array.getElem?_eq_some_iff.1 hg).1
  have hz2 : ¬ ((i : Int) = (n : Int)) := by omega
  have hz3 : (c : Int) < (n : Int) + 1 := by omega
  have hik : i + (n + 1 - i) = n + 1 := by omega
  have hkk : (n : Int) + 1 - (i : Int) = ((n + 1 - i : Nat) : Int) := by omega
  have hold : (Builtin.firstCells inf.size i (.slice (some ⟨g, 0, none⟩) i c)).run Try.prog w.drew = .ok (cur.toList.take (i * 2)).toArray w.drew := by
    rw [hzs]
    refine run_firstCells_some w.drew 2 i ⟨g, 0, none⟩ i c (cur.toList.take (i * 2)) (by simp [hcur]; omega) (fun j v hj => ?_)
    rw [List.getElem?_take] at hj
    split at hj
    · rw [add_lit]
      have : (w.drew.heap)[g]? = some (.cells cur 91 (0, 0)) := hg
      simp only [World.cell?, this]
      simpa using hj
    · cases hj
  have hrz : ∀ ty, (Builtin.append_ #[50, 3] ty #[.slice (some ⟨g, 0, none⟩) i c, .int .i64 ((n : Int) + 1 - (i : Int))]).run Try.prog w =
      .ok (.slice (some ⟨w.heap.size, 0, none⟩) (n + 1) G) (w.drew.alloc (.cells row 91)) := fun ty => by
    have h := Lib.run_append_grow_zeros (P := Try.prog) w 50 3 ty 91 inf _ .i64 .i64 Try.underlying50 Try.underlying3 hi0 hz0 (some ⟨g, 0, none⟩) i c (cur.toList.take (i * 2)) hold (n + 1 - i) (by omega) (by omega) (by omega) (by omega) (by rw [hzb]; omega) (by rw [hzb, hik]; exact growslice_fits hroom hbig)
    rw [hik] at h
    rw [hkk, hrow, hG]
    exact h
  have hGn : n + 1 ≤ G := by rw [hG]; exact grownCap_ge w _ _ _
  have hG63 : G ≤ 9223372036854775807 := by
    have := grownCap_le_maxLen w (n + 1) c 91 (by unfold maxLen; omega)
    rw [← hG] at this
    unfold maxLen at this
    omega
  have hrs : row.size = G * 2 := by
    rw [hrow]
    simp [Builtin.zeroCells, Value.cells, hcur]
    omega
  have hcl : ((cur.toList.take (n * 2)).drop (i * 2)).length = (n - i) * 2 := by simp [hcur]; omega
  obtain ⟨W1, hW1⟩ : ∃ W1, W1 = w.drew.alloc (.cells row 91) := ⟨_, rfl⟩
  have hN : W1.heap[w.heap.size]? = some (.cells row 91 (0, 0)) := by rw [hW1]; exact heap_alloc_new w.drew _
  have hO : ∀ b, b < w.heap.size → W1.heap[b]? = w.heap[b]? := fun b hb => by
    rw [hW1]
    show (w.drew.heap.push _)[b]? = _
    rw [Array.getElem?_push, if_neg (show ¬ b = w.drew.heap.size from by show ¬ b = w.heap.size; omega)]
    rfl
  rw [← hW1] at hrz ⊢
  have hc1s : cur1.size = G * 2 := by rw [hc1]; simp [hrs]; omega
  have hcpA : ∀ ty dc, (Builtin.copy_ #[50, 50] ty #[.slice (some ⟨w.heap.size, i * 2, none⟩) (n + 1 - i) dc, .slice (some ⟨vb, voff, none⟩) 1 vc]).run Try.prog W1 = .ok (goInt (1 : Nat)) (W1.setRow w.heap.size cur1) := fun ty dc => by
    rw [hc1]
    refine run_copy_rowZ _ 50 50 ty 91 inf w.heap.size (i * 2) (n + 1 - i) dc ⟨vb, voff, none⟩ 1 vc 1 row 91 [s1, s2] Try.underlying50 hi0 hN (by simp only [Nat.min_def]; split <;> omega) (by rw [hzs]; rfl) (fun j v hj => ?_) (by simp [hrs]; omega) (fun v hv => ?_)
    · rw [Addr.add_lit]
      have : W1.cell? ⟨vb, voff + j, none⟩ = w.cell? ⟨vb, voff + j, none⟩ := by simp only [World.cell?, hO vb hvb]
      rw [this]
      match j, hj with
      | 0, hj => rw [Nat.add_zero, hx1]; simpa using hj
      | 1, hj => rw [hx2]; simpa using hj
      | _ + 2, hj => simp at hj
    · rcases List.mem_cons.1 hv with rfl | hv
      · exact o1
      · rcases List.mem_cons.1 hv with rfl | hv
        · exact o2
        · cases hv
  have hN1 : ((W1.setRow w.heap.size cur1).drew).heap[w.heap.size]? = some (.cells cur1 91 (0, 0)) := setRow_heap W1 w.heap.size row cur1 91 (0, 0) hN
  have hcpB : ∀ ty dc sc, (Builtin.copy_ #[50, 50] ty #[.slice (some ⟨w.heap.size, (i + 1) * 2, none⟩) (n - i) dc, .slice (some ⟨g, i * 2, none⟩) (n - i) sc]).run Try.prog ((W1.setRow w.heap.size cur1).drew) = .ok (goInt (n - i : Nat)) (((W1.setRow w.heap.size cur1).drew).setRow w.heap.size cur2) := fun ty dc sc => by
    rw [hc2]
    refine run_copy_rowZ _ 50 50 ty 91 inf w.heap.size ((i + 1) * 2) (n - i) dc ⟨g, i * 2, none⟩ (n - i) sc (n - i) cur1 91 _ Try.underlying50 hi0 hN1 (by simp) (by rw [hzs]; exact hcl) (fun j v hj => ?_) (by rw [hcl, hc1s]; omega) oc
    rw [Addr.add_lit]
    have e : ((W1.setRow w.heap.size cur1).drew).heap[g]? = some (.cells cur 91 (0, 0)) := by
      have : ((W1.setRow w.heap.size cur1).drew).heap[g]? = W1.heap[g]? := setRow_other W1 w.heap.size g cur1 (by omega)
      rw [this, hO g hgw]; exact hg
    simp only [World.cell?, e]
    rw [List.getElem?_drop, List.getElem?_take] at hj
    split at hj
    · simpa using hj
    · cases hj
  have hGi : ¬ (G = i) := by omega
  have hGim : ¬ (G = i + 1) := by omega
  have hci : ¬ (c = i) := by omega
  have hw1 : IntKind.i64.wrap ((i : Int) + 1) = (i : Int) + 1 := by rw [IntKind.wrap_i64]; omega
  have hw2 : IntKind.i64.wrap ((n : Int) + 1) = (n : Int) + 1 := by rw [IntKind.wrap_i64]; omega
  have hw3 : IntKind.i64.wrap ((n : Int) + 1 - (i : Int)) = (n : Int) + 1 - (i : Int) := by rw [IntKind.wrap_i64]; omega
  have hb1 : (0 : Int) ≤ (i : Int) + 1 := by omega
  have hin : i ≤ n := by omega
  have htn : ((i : Int) + 1).toNat = i + 1 := by omega
  have hb3 : (i : Int) ≤ (n : Int) := by omega
  have hb5 : n + 1 - (i + 1) = n - i := by omega
  clear hkk hik hold hrow hG hrs hc1 hc2 hcl hc1s hW1 hN hN1 hO
  go_enter Try.func111, Try.ntmps111
  go_wp2_with (first
    | (at_builtin; refine Lib.wpList_append_run _ rfl _ _ _ _ rfl _ _ rfl rfl _ _ (hrz _) ?_)
    | (at_builtin; refine wpList_copy_runI _ rfl _ _ 50 50 rfl _ _ rfl rfl (hcpA _ _) ?_))
  go_region_law_o (refine step_copy_runI rfl _ _ 50 50 rfl _ _ (by simp [Act.eval, Act.put]) (by simp [Act.eval, Act.put]) (hcpB _ _ _) ?_)
  go_wp2
  go_ret
  exact ⟨rfl, rfl⟩

end Lp

/-! LpF2 -/

namespace Lp
open Go Go.Proofs Go.Lib Go.RowKit

section
variable {P : Program}

theorem step_append_runI {ops : Array Oper} {o : Oper} {a : Act} {w : World} {K : Act → World → Prop} {Q : Exit → Act → World → Prop} {E : Prop}
    (hg : o.guard = none) (d x : Operand) (dT sT : TypeId) (hop : o.op = Op.call { callee := Callee.builtin Builtin.append, args := #[d, x], argTypes := #[dT, sT] })
    (v u : Value) (hd : a.eval d = v) (hx : a.eval x = u) {v' : Value} {w' : World} (hr : (Builtin.append_ #[dT, sT] o.type #[v, u]).run P w = .ok v' w') (hK : K (a.put o.dst v') w') :
    if Region.wanted o (yielded ops a.tmps) = true then Oper.wp P o a w K Q else E := by
  rw [if_pos (by simp [Region.wanted, hg])]
  unfold Oper.wp execOp
  simp only [hop, resolve, invoke, builtin, Sem.run_bind, Sem.run_pure, Result.andThen_ok, List.map_toArray, List.map_cons, List.map_nil, hd, hx, hr]
  exact hK

theorem wpList_clear_runI (w : World) {ops : Array Oper} {rest : List Oper} {o : Oper} {a : Act} {Q : Exit → Act → World → Prop} (hgd : o.guard = none) (d : Operand) (t : TypeId)
    (ho : o.op = .call { callee := .builtin .clear, args := #[d], argTypes := #[t] }) (v : Value) (hd : a.eval d = v) {v' : Value} {w' : World}
    (hr : (Builtin.clear_ #[t] o.type #[v]).run P w = .ok v' w') (h : wpList P ops Q rest (a.put o.dst v') w') : wpList P ops Q (o :: rest) a w :=
  wpList_plain hgd fun _ hK => by
    unfold Oper.wp execOp
    simp only [ho, resolve, invoke, builtin, Sem.run_bind, Sem.run_pure, Result.andThen_ok, List.map_toArray, List.map_cons, List.map_nil, hd, hr]
    exact hK _ _ h

end

set_option maxHeartbeats 4000000 in
set_option maxRecDepth 100000 in
/-- What stands behind goes one ahead, the last place is cleared. -/
theorem del_walk (g n c i : Nat) (cur : Array Value) (w : World) (hi : i < n) (hnc : n ≤ c) (hc63 : c ≤ 9223372036854775807)
    (hg : w.heap[g]? = some (.cells cur 91 (0, 0))) (hcur : cur.size = c * 2) (oc : ∀ v ∈ (cur.toList.take (n * 2)).drop ((i + 1) * 2), v.oneCell' = true)
    (cur1 cur2 : Array Value) (hc1 : cur1 = (cur.toList.take (i * 2) ++ (cur.toList.take (n * 2)).drop ((i + 1) * 2) ++ cur.toList.drop (i * 2 + ((cur.toList.take (n * 2)).drop ((i + 1) * 2)).length)).toArray)
    (hc2 : cur2 = (cur1.toList.take ((n - 1) * 2) ++ [Value.string ⟨#[]⟩, Value.string ⟨#[]⟩] ++ cur1.toList.drop ((n - 1) * 2 + 2)).toArray) :
    Calls Try.prog 98 #[.slice (some ⟨g, 0, none⟩) n c, .int .i64 i, .int .i64 ((i : Int) + 1)] w fun e w' =>
      e = .returned (.slice (some ⟨g, 0, none⟩) (n - 1) c) ∧ w' = (w.drew.setRow g cur1).setRow g cur2 := by
  have mixed : Try.prog.follows .mixedOrders = true := by kernel_rfl
  obtain ⟨inf, hi0, hz0, hzs, hzb⟩ : ∃ inf, Try.prog.info? 91 = some inf ∧ inf.zero = some (.agg #[.string ⟨#[]⟩, .string ⟨#[]⟩]) ∧ inf.size = 2 ∧ inf.bytes = 32 := ⟨_, rfl, rfl, rfl, rfl⟩
  have hcl : ((cur.toList.take (n * 2)).drop ((i + 1) * 2)).length = (n - (i + 1)) * 2 := by simp [hcur]; omega
  have hg' : w.drew.heap[g]? = some (.cells cur 91 (0, 0)) := hg
  have hlen : i + (n - (i + 1)) = n - 1 := by omega
  have happ : ∀ ty off cp, (c ≠ i + 1 → off = (i + 1) * 2) → (Builtin.append_ #[50, 50] ty #[.slice (some ⟨g, 0, none⟩) i c, .slice (some ⟨g, off, none⟩) (n - (i + 1)) cp]).run Try.prog w.drew = .ok (.slice (some ⟨g, 0, none⟩) (n - 1) c) (w.drew.setRow g cur1) := fun ty off cp hoff => by
    have h := run_append_room_row (P := Try.prog) w.drew 50 50 ty 91 inf Try.underlying50 hi0 g i c cur 91 hg' (.slice (some ⟨g, off, none⟩) (n - (i + 1)) cp) (n - (i + 1)) _
      (Src.ofSlice w.drew Try.underlying50 ⟨g, off, none⟩ (n - (i + 1)) cp ((cur.toList.take (n * 2)).drop ((i + 1) * 2)) (by rw [hzs]; exact hcl) (fun j v hj => by
        have hjl := (List.getElem?_eq_some_iff.1 hj).1
        rw [hcl] at hjl
        rw [hoff (by omega), Addr.add_lit]
        simp only [World.cell?, hg']
        rw [List.getElem?_drop, List.getElem?_take] at hj
        split at hj
        · simpa using hj
        · cases hj) oc) (by omega) (by rw [hcl, hzs, hcur]; omega)
    rw [hlen, hzs, ← hc1] at h
    exact h
  have hc1s : cur1.size = c * 2 := by rw [hc1]; simp [hcur]; omega
  have hg1 : (w.drew.setRow g cur1).heap[g]? = some (.cells cur1 91 (0, 0)) := setRow_heap w.drew g cur cur1 91 (0, 0) hg'
  have hclr : ∀ ty cp, (Builtin.clear_ #[50] ty #[.slice (some ⟨g, (n - 1) * 2, none⟩) (n - (n - 1)) cp]).run Try.prog (w.drew.setRow g cur1) = .ok (.tuple #[]) ((w.drew.setRow g cur1).setRow g cur2) := fun ty cp => by
    have hst := run_storeCells_at Try.prog g ((n - 1) * 2) 91 [Value.string ⟨#[]⟩, Value.string ⟨#[]⟩] 0 cur1 (w.drew.setRow g cur1) hg1 (by simp [hc1s]; omega) (fun v hv => by
      rcases List.mem_cons.1 hv with rfl | hv
      · rfl
      · rcases List.mem_cons.1 hv with rfl | hv
        · rfl
        · cases hv)
    rw [show (n - 1) * 2 + 0 = (n - 1) * 2 from rfl] at hst
    have e1 : (n - 1) * 2 + [Value.string ⟨#[]⟩, Value.string ⟨#[]⟩].length = (n - 1) * 2 + 2 := rfl
    rw [e1, ← hc2] at hst
    have hn1 : n - (n - 1) = 0 + 1 := by omega
    have hzc : (Builtin.zeroCells (Value.agg #[.string ⟨#[]⟩, .string ⟨#[]⟩]).cells 1).toList = [Value.string ⟨#[]⟩, Value.string ⟨#[]⟩] := by kernel_rfl
    rw [hn1]
    simp [Builtin.clear_, run_underlying Try.underlying50, Try.zeroValue91, hzc, hst]
  have hw1 : IntKind.i64.wrap ((i : Int) + 1) = (i : Int) + 1 := by rw [IntKind.wrap_i64]; omega
  have hb1 : (0 : Int) ≤ (i : Int) + 1 := by omega
  have hin : i ≤ n := by omega
  have hin' : i ≤ c := by omega
  have htn : ((i : Int) + 1).toNat = i + 1 := by omega
  have hb2 : ¬ (c = n - 1) := by omega
  have hb3 : (i : Int) + 1 ≤ (n : Int) := by omega
  have hb6 : (i : Int) ≤ (i : Int) + 1 := by omega
  have hz1 : ¬ ((i : Int) = (i : Int) + 1) := by omega
  have hn1 : n - 1 ≤ n := by omega
  have hcn : (n : Int) ≤ (c : Int) := by omega
  clear hc1 hc2 hcl hc1s hg1 hlen
  by_cases hci : c = i + 1
  · have happ' := fun ty cp => happ ty 0 cp (fun h => absurd hci h)
    have hci' : (c = i + 1) = True := eq_true hci
    clear happ hci
    go_enter Try.func98, Try.ntmps98
    go_wp2
    go_region_law_o (refine step_append_runI rfl _ _ 50 50 rfl _ _ (by simp [Act.eval, Act.put]) (by simp [Act.eval, Act.put]) (happ' 50 (c - (i + 1))) ?_)
    go_wp2_with (at_builtin; refine wpList_clear_runI _ rfl _ 50 rfl _ rfl (hclr _ _) ?_)
    go_ret
    exact ⟨rfl, rfl⟩
  · have happ' := fun ty cp => happ ty ((i + 1) * 2) cp (fun _ => rfl)
    clear happ
    go_enter Try.func98, Try.ntmps98
    go_wp2
    go_region_law_o (refine step_append_runI rfl _ _ 50 50 rfl _ _ (by simp [Act.eval, Act.put]) (by simp [Act.eval, Act.put]) (happ' 50 (c - (i + 1))) ?_)
    go_wp2_with (at_builtin; refine wpList_clear_runI _ rfl _ 50 rfl _ rfl (hclr _ _) ?_)
    go_ret
    exact ⟨rfl, rfl⟩

end Lp

/-! LpF3 -/

namespace Lp
open Go Go.Proofs Go.Lib Go.RowKit

theorem get_ins {α : Type} (xs : List α) (x : α) (i m : Nat) (hi : i ≤ xs.length) : (xs.take i ++ [x] ++ xs.drop i)[m]? = if m < i then xs[m]? else if m = i then some x else xs[m - 1]? := by
  have ht : (xs.take i).length = i := by simp; omega
  rw [List.append_assoc, List.getElem?_append, ht]
  split
  · rename_i h; rw [List.getElem?_take, if_pos h]
  · rename_i h
    rw [List.getElem?_append]
    split
    · rename_i h2
      have : m = i := by simp at h2; omega
      rw [if_pos this, this]; simp
    · rename_i h2
      simp at h2
      rw [if_neg (by omega), List.getElem?_drop]
      congr 1; simp; omega

theorem get_del {α : Type} (xs : List α) (i m : Nat) (hi : i < xs.length) : (xs.take i ++ xs.drop (i + 1))[m]? = if m < i then xs[m]? else xs[m + 1]? := by
  have ht : (xs.take i).length = i := by simp; omega
  rw [List.getElem?_append, ht]
  split
  · rename_i h; rw [List.getElem?_take, if_pos h]
  · rename_i h
    rw [List.getElem?_drop]
    congr 1; omega

theorem CellsOk.ins {R : PV → Value → Prop} {xs : List PV} {c c' : Array Value} {x : PV} {s : List Value} {i : Nat} (h : CellsOk R 2 c xs) (hs : CellsOk R 2 ⟨s⟩ [x]) (hi : i ≤ xs.length)
    (h1 : ∀ q, q < i * 2 → c'[q]? = c[q]?) (h2 : ∀ q, q < 2 → c'[i * 2 + q]? = s[q]?) (h3 : ∀ q, i * 2 ≤ q → q < xs.length * 2 → c'[q + 2]? = c[q]?) :
    CellsOk R 2 c' (xs.take i ++ [x] ++ xs.drop i) := by
  intro m y hy
  rw [get_ins xs x i m hi] at hy
  have hlt : ∀ {z : PV} {j : Nat} {p : PV}, z.cells.length = 2 → z.cells[j]? = some p → j < 2 := fun h1 h2 => by rw [← h1]; exact (List.getElem?_eq_some_iff.1 h2).1
  split at hy
  · rename_i hm
    obtain ⟨z1, z2⟩ := h m y hy
    refine ⟨z1, fun j p hp => ?_⟩
    have hj := hlt z1 hp
    obtain ⟨v, u1, u2⟩ := z2 j p hp
    exact ⟨v, by rw [h1 _ (by omega)]; exact u1, u2⟩
  · split at hy
    · rename_i hm
      cases hy
      obtain ⟨z1, z2⟩ := hs 0 x rfl
      refine ⟨z1, fun j p hp => ?_⟩
      have hj := hlt z1 hp
      obtain ⟨v, u1, u2⟩ := z2 j p hp
      rw [Nat.zero_mul, Nat.zero_add] at u1
      exact ⟨v, by rw [hm, h2 _ hj]; simpa using u1, u2⟩
    · rename_i hm1 hm2
      obtain ⟨z1, z2⟩ := h (m - 1) y hy
      have hml : m - 1 < xs.length := (List.getElem?_eq_some_iff.1 hy).1
      refine ⟨z1, fun j p hp => ?_⟩
      have hj := hlt z1 hp
      obtain ⟨v, u1, u2⟩ := z2 j p hp
      have e : m * 2 + j = ((m - 1) * 2 + j) + 2 := by omega
      exact ⟨v, by rw [e, h3 _ (by omega) (by omega)]; exact u1, u2⟩

theorem CellsOk.del {R : PV → Value → Prop} {xs : List PV} {c c' : Array Value} {i : Nat} (h : CellsOk R 2 c xs) (hi : i < xs.length)
    (h1 : ∀ q, q < i * 2 → c'[q]? = c[q]?) (h3 : ∀ q, i * 2 ≤ q → q < (xs.length - 1) * 2 → c'[q]? = c[q + 2]?) :
    CellsOk R 2 c' (xs.take i ++ xs.drop (i + 1)) := by
  intro m y hy
  rw [get_del xs i m hi] at hy
  have hlt : ∀ {z : PV} {j : Nat} {p : PV}, z.cells.length = 2 → z.cells[j]? = some p → j < 2 := fun h1 h2 => by rw [← h1]; exact (List.getElem?_eq_some_iff.1 h2).1
  split at hy
  · rename_i hm
    obtain ⟨z1, z2⟩ := h m y hy
    refine ⟨z1, fun j p hp => ?_⟩
    have hj := hlt z1 hp
    obtain ⟨v, u1, u2⟩ := z2 j p hp
    exact ⟨v, by rw [h1 _ (by omega)]; exact u1, u2⟩
  · rename_i hm1
    obtain ⟨z1, z2⟩ := h (m + 1) y hy
    have hml : m + 1 < xs.length := (List.getElem?_eq_some_iff.1 hy).1
    refine ⟨z1, fun j p hp => ?_⟩
    have hj := hlt z1 hp
    obtain ⟨v, u1, u2⟩ := z2 j p hp
    have e : (m + 1) * 2 + j = (m * 2 + j) + 2 := by omega
    exact ⟨v, by rw [h3 _ (by omega) (by omega), ← e]; exact u1, u2⟩

/-- A splice, read. -/
theorem splice_arr {cur cur' : Array Value} {o : Nat} {vs : List Value} (h : cur' = (cur.toList.take o ++ vs ++ cur.toList.drop (o + vs.length)).toArray) (hl : o + vs.length ≤ cur.size) (q : Nat) :
    cur'[q]? = if q < o then cur[q]? else if q < o + vs.length then vs[q - o]? else cur[q]? := by
  rw [h, List.getElem?_toArray, splice_get _ _ _ _ (by simpa using hl)]
  simp

theorem splice_size {cur cur' : Array Value} {o : Nat} {vs : List Value} (h : cur' = (cur.toList.take o ++ vs ++ cur.toList.drop (o + vs.length)).toArray) (hl : o + vs.length ≤ cur.size) : cur'.size = cur.size := by
  rw [h]; simp; omega

section
variable {base prot : Nat → Prop} {w0 : Wz} {blk : Nat → Option Nat} {a : Act} {w : World}

/-- What a call leaves that changes one owned slice. -/
structure Left (R : PV → Value → Prop) (old : Option Nat) (w : World) (ys : List PV) (v' : Value) (w' : World) (gb : Nat) : Prop where
  size : w.heap.size ≤ w'.heap.size
  sm : Sm w w'
  kept : ∀ b y, old ≠ some b → w.heap[b]? = some y → w'.heap[b]? = some y
  at' : old = some gb ∨ w.heap.size ≤ gb
  cells : ∃ cap c, v' = .slice (some ⟨gb, 0, none⟩) ys.length cap ∧ w'.heap[gb]? = some (.cells c 91 (0, 0)) ∧ ys.length ≤ cap ∧ cap ≤ maxLen ∧ c.size = cap * 2 ∧ CellsOk R 2 c ys

theorem Left.rel {tmps : List PV} {objs : List Obj} {k ver : Nat} {ob : Obj} {ys : List PV} {v' : Value} {w' : World} {gb : Nat} (R : Rel base prot w0 ⟨tmps, objs⟩ blk a w) (h1 : objs[k]? = some ob) (h2 : ob.live = true) (h3 : ob.ver = ver)
    (h4 : ob.sz = 2) (hty : ob.ty = 91) (L : Left (RepS w (okL base objs blk) objs blk) (blk k) w ys v' w' gb) :
    Rel base prot w0 ⟨tmps, objs.set k { ob with xs := ys, ver := ver + 1 }⟩ (blkAdd blk k (some gb)) a w' ∧
    RepT w' (okL base (objs.set k { ob with xs := ys, ver := ver + 1 }) (blkAdd blk k (some gb))) (objs.set k { ob with xs := ys, ver := ver + 1 }) (blkAdd blk k (some gb)) (.osl k (ver + 1)) v' := by
  obtain ⟨cap, c, hv, z1, z2, z3, z4, z5⟩ := L.cells
  have hb : blkAdd blk k (some gb) k = some gb := by unfold blkAdd; rw [if_pos rfl]
  constructor
  · refine R.setObj L.sm (o' := { ob with xs := ys, ver := ver + 1 }) h1 h2 h2 L.size L.kept (fun g hg => by cases hg; exact L.at') (by simp; omega) (fun hv => by simp at hv; omega) (fun hr => ?_)
    refine objRep_of (gb := some gb) (R := RepS w (okL base objs blk) objs blk) hb ?_ hr
    simp only [hty, h4]
    exact ⟨cap, c, z1, z2, z4, z5⟩
  · refine ⟨by rw [hv]; rfl, { ob with xs := ys, ver := ver + 1 }, ?_, Nat.le_refl _, fun _ _ => ?_⟩
    · rw [List.getElem?_set]; simp [(List.getElem?_eq_some_iff.1 h1).1]
    · unfold Hdr
      rw [hb]
      simp only [hty, h4]
      exact ⟨cap, c, hv, z1, z2, z3, z4⟩

theorem three {R : PV → Value → Prop} {p q r : PV} {vs : List Value} (h : RepL R [p, q, r] vs) : ∃ u v x, vs = [u, v, x] ∧ R p u ∧ R q v ∧ R r x := by
  obtain ⟨hl, h⟩ := h
  match vs, hl with
  | [u, v, x], _ => exact ⟨u, v, x, rfl, h 0 _ _ rfl rfl, h 1 _ _ rfl rfl, h 2 _ _ rfl rfl⟩

theorem enters_ins : Enters Try.prog 111 := ⟨_, Try.func111, by kernel_rfl, by kernel_rfl⟩
theorem enters_del : Enters Try.prog 98 := ⟨_, Try.func98, by kernel_rfl, by kernel_rfl⟩

theorem opt_or {α : Type} (x : Option α) : x = none ∨ ∃ g, x = some g := by cases x with
  | none => exact .inl rfl
  | some g => exact .inr ⟨g, rfl⟩

/-- An element of two cells. -/
def two (x : PV) : Prop := x.cells.length = 2 ∧ x.cells.all PV.storable = true

theorem insert_left {objs : List Obj} {k ver : Nat} {ob : Obj} {x : PV} {k2 ver2 : Nat} {ob2 : Obj} {i : Nat} {tmps : List PV} (R : Rel base prot w0 ⟨tmps, objs⟩ blk a w) (h1 : objs[k]? = some ob) (h2 : ob.live = true) (h3 : ob.ver = ver)
    (h4 : ob.sz = 2) (hty : ob.ty = 91) (g1 : objs[k2]? = some ob2) (g2 : ob2.live = true) (g3 : ob2.ver = ver2) (g4 : ob2.sz = 2) (g5 : ob2.xs = [x]) (hkk : k2 ≠ k)
    (hall : ∀ y ∈ ob.xs, two y) (hx : two x) (hi : i ≤ ob.xs.length) (hb : (ob.xs.length + 1) * 32 ≤ 140737488355328) {v0 v2 : Value}
    (r0 : RepT w (okL base objs blk) objs blk (.osl k ver) v0) (r2 : RepT w (okL base objs blk) objs blk (.osl k2 ver2) v2) :
    Calls Try.prog 111 #[v0, .int .i64 i, v2] w fun e w' => ∃ v' gb, e = .returned v' ∧ Left (RepS w (okL base objs blk) objs blk) (blk k) w (ob.xs.take i ++ [x] ++ ob.xs.drop i) v' w' gb := by
  have hh := r0.osl h1 h2 h3
  have hD : TOk Try.prog 91 (D 91) := hD 91
  have hk : (D 91).kind ≠ .none := by rw [show (D 91).kind = .struct [(0, t_string), (1, t_string)] from rfl]; exact fun h => by cases h
  have e2 : (D 91).size = 2 := rfl
  have hone0 : ∀ y, two y → ∀ p ∈ y.cells, ∀ v, RepS w (okL base objs blk) objs blk p v → v.oneCell' = true := fun y hy p hp v hv => (one_of_solid hv (List.all_eq_true.1 hy.2 p hp)).1
  -- the source's header
  obtain ⟨vb, voff, vc, curv, tv, rfl, hgv, hbk2, hs⟩ : ∃ vb voff vc curv tv, v2 = .slice (some ⟨vb, voff, none⟩) 1 vc ∧ w.heap[vb]? = some (.cells curv tv (0, 0)) ∧ blk k2 = some vb ∧ ∃ s1 s2, w.cell? ⟨vb, voff, none⟩ = some s1 ∧ w.cell? ⟨vb, voff + 1, none⟩ = some s2 ∧ CellsOk (RepS w (okL base objs blk) objs blk) 2 ⟨[s1, s2]⟩ [x] := by
    have hr := r2.osl g1 g2 g3
    unfold Hdr at hr
    rcases opt_or (blk k2) with hbk | ⟨g, hbk⟩
    · rw [hbk] at hr; rw [g5] at hr; exact absurd hr.2 (by simp)
    · rw [hbk] at hr
      obtain ⟨cap, c, rfl, x1, x2, x3, x4⟩ := hr
      obtain ⟨c', y1, y2, y3⟩ := obj_cells R g1 g2 hbk
      rw [x1] at y1; cases y1
      rw [g5] at y3 ⊢
      rw [g4] at y3
      obtain ⟨p1, p2, hp⟩ : ∃ p1 p2, x.cells = [p1, p2] := by
        match h : x.cells, hx.1 with
        | [p1, p2], _ => exact ⟨p1, p2, rfl⟩
      obtain ⟨_, z⟩ := y3 0 x rfl
      obtain ⟨s1, u1, q1⟩ := z 0 p1 (by rw [hp]; rfl)
      obtain ⟨s2, u2, q2⟩ := z 1 p2 (by rw [hp]; rfl)
      refine ⟨g, 0, cap, c, ob2.ty, rfl, x1, hbk, s1, s2, ?_, ?_, ?_⟩
      · simp only [World.cell?, x1]; simpa using u1
      · simp only [World.cell?, x1]; simpa using u2
      · intro m y hy
        match m, hy with
        | 0, hy =>
          cases hy
          refine ⟨hx.1, fun j p hpj => ?_⟩
          rw [hp] at hpj
          match j, hpj with
          | 0, hpj => cases hpj; exact ⟨_, rfl, q1⟩
          | 1, hpj => cases hpj; exact ⟨_, rfl, q2⟩
          | _ + 2, hpj => simp at hpj
        | _ + 1, hy => simp at hy
  have hvlt : vb < w.heap.size := (Array.getElem?_eq_some_iff.1 hgv).1
  obtain ⟨s1, s2, c1, c2, hcs⟩ := hs
  obtain ⟨news, hsrc, hcx⟩ : ∃ news, Src Try.prog 2 50 (.slice (some ⟨vb, voff, none⟩) 1 vc) [x].length news w ∧ CellsOk (RepS w (okL base objs blk) objs blk) 2 ⟨news⟩ [x] := by
    have hso := cells_one hcs rfl (fun y hy => hone0 y (by rw [List.mem_singleton.1 hy]; exact hx))
    refine ⟨[s1, s2], Src.ofSlice w Try.underlying50 ⟨vb, voff, none⟩ 1 vc [s1, s2] rfl (fun j u hj => ?_) hso, hcs⟩
    rw [Addr.add_lit]
    match j, hj with
    | 0, hj => cases hj; rw [Nat.add_zero]; exact c1
    | 1, hj => cases hj; exact c2
    | _ + 2, hj => simp at hj
  have hone : ∀ y, two y → ∀ p ∈ y.cells, ∀ v, RepS w (okL base objs blk) objs blk p v → v.oneCell' = true := fun y hy p hp v hv => (one_of_solid hv (List.all_eq_true.1 hy.2 p hp)).1
  have hso := cells_one hcs rfl (fun y hy => hone y (by rw [List.mem_singleton.1 hy]; exact hx))
  have o1 : s1.oneCell' = true := hso s1 (by simp)
  have o2 : s2.oneCell' = true := hso s2 (by simp)
  by_cases hin : i = ob.xs.length
  · -- at the end
    subst hin
    have hfin : ob.xs.take ob.xs.length ++ [x] ++ ob.xs.drop ob.xs.length = ob.xs ++ [x] := by simp
    rw [hfin]
    obtain ⟨v', w', gb, q1, q2, q3, q4, q5⟩ := append_core (ty := 50) (R := RepS w (okL base objs blk) objs blk) (gOld := blk k) (v := v0) (x := .slice (some ⟨vb, voff, none⟩) 1 vc) (xs := ob.xs) (ys := [x]) Try.underlying50 hD hk (by decide) (by decide) (by
      unfold Hdr at hh
      cases hbk : blk k with
      | none => rw [hbk] at hh; exact hh
      | some g =>
        rw [hbk] at hh
        obtain ⟨cap, c, hv, x1, x2, x3, x4⟩ := hh
        obtain ⟨c', y1, y2, y3⟩ := obj_cells R h1 h2 hbk
        rw [x1] at y1; cases y1
        rw [hty] at x1
        rw [h4] at x4 y3
        exact ⟨cap, c, hv, x1, x2, x3, x4, y3⟩) (by rw [e2]; exact hsrc) (by rw [e2]; exact hcx) hb (by simp; omega)
    have hnn : ob.xs ++ [x] ≠ [] := by simp
    have hq1 : ∀ ty, (Builtin.append_ #[50, 50] ty #[v0, .slice (some ⟨vb, voff, none⟩) 1 vc]).run Try.prog w = .ok v' w' := fun ty => q1
    have hL : ∃ gb, Left (RepS w (okL base objs blk) objs blk) (blk k) w (ob.xs ++ [x]) v' w' gb := by
      cases gb with
      | none => exact absurd q5.2 hnn
      | some g => exact ⟨g, q2.1, q2.2, q3, q4 g rfl, q5⟩
    obtain ⟨gb', hL⟩ := hL
    have fin : ∀ base' n c, v0 = .slice base' n c → n = ob.xs.length → (base' = none → n = 0 ∧ c = 0) → n ≤ c → c ≤ 9223372036854775807 →
        Calls Try.prog 111 #[v0, .int .i64 ob.xs.length, .slice (some ⟨vb, voff, none⟩) 1 vc] w fun e w' => ∃ v' gb, e = .returned v' ∧ Left (RepS w (okL base objs blk) objs blk) (blk k) w (ob.xs ++ [x]) v' w' gb := by
      intro base' n c ev en hn hnc hc
      subst ev; subst en
      refine (ins_end base' _ c vb voff vc w w' v' hn hnc hc hq1).mono fun e w1 ⟨e1, e2⟩ => ?_
      subst e2
      exact ⟨v', gb', e1, hL⟩
    unfold Hdr at hh
    rcases opt_or (blk k) with hbk | ⟨g, hbk⟩
    · rw [hbk] at hh; exact fin none 0 0 hh.1 (by rw [hh.2]; rfl) (fun _ => ⟨rfl, rfl⟩) (Nat.le_refl _) (by decide)
    · rw [hbk] at hh
      obtain ⟨cap, c, hv, x1, x2, x3, x4⟩ := hh
      exact fin _ _ _ hv rfl (fun h => by cases h) x2 (by unfold maxLen at x3; omega)
  · have hlt : i < ob.xs.length := by omega
    unfold Hdr at hh
    rcases opt_or (blk k) with hbk | ⟨g, hbk⟩
    · rw [hbk] at hh; rw [hh.2] at hlt; simp at hlt
    · rw [hbk] at hh
      obtain ⟨cap, c, rfl, x1, x2, x3, x4⟩ := hh
      obtain ⟨c', y1, y2, y3⟩ := obj_cells R h1 h2 hbk
      rw [x1] at y1; cases y1
      rw [hty] at x1
      rw [h4] at x4 y3
      have hc63 : cap ≤ 9223372036854775807 := by unfold maxLen at x3; omega
      have hvg : vb ≠ g := fun e => R.objs.dis k2 k ob2 ob vb hkk g1 g2 h1 h2 hbk2 (by rw [hbk, e])
      have hoc : ∀ v ∈ c.toList.take (ob.xs.length * 2), v.oneCell' = true := by
        refine cells_one (CellsOk.take y3) (by simp [x4]; omega) (fun y hy => hone y (hall y hy))
      have hoc' : ∀ v ∈ (c.toList.take (ob.xs.length * 2)).drop (i * 2), v.oneCell' = true := fun v hv => hoc v (List.mem_of_mem_drop hv)
      have hdl : ((c.toList.take (ob.xs.length * 2)).drop (i * 2)).length = (ob.xs.length - i) * 2 := by simp [x4]; omega
      have hdg : ∀ q, i * 2 ≤ q → q < ob.xs.length * 2 → ((c.toList.take (ob.xs.length * 2)).drop (i * 2))[q - i * 2]? = c[q]? := fun q hq1 hq2 => by
        rw [List.getElem?_drop, List.getElem?_take, show i * 2 + (q - i * 2) = q by omega, if_pos hq2]; simp
      have hyl : (ob.xs.take i ++ [x] ++ ob.xs.drop i).length = ob.xs.length + 1 := by simp; omega
      have hmax : ob.xs.length + 1 ≤ maxLen := by unfold maxLen; omega
      by_cases hroom : ob.xs.length + 1 ≤ cap
      · -- in place
        refine (ins_shift g ob.xs.length cap i vb voff vc c s1 s2 w hlt hroom hc63 x1 x4 c1 c2 hvg curv tv hgv o1 o2 hoc' _ _ rfl rfl).mono fun e w' ⟨he, hw⟩ => ?_
        refine ⟨_, g, he, ?_⟩
        generalize hcur1 : (c.toList.take ((i + 1) * 2) ++ (c.toList.take (ob.xs.length * 2)).drop (i * 2) ++ c.toList.drop ((i + 1) * 2 + ((c.toList.take (ob.xs.length * 2)).drop (i * 2)).length)).toArray = cur1 at hw
        have hf1 : (i + 1) * 2 + ((c.toList.take (ob.xs.length * 2)).drop (i * 2)).length ≤ c.size := by rw [hdl, x4]; omega
        have hs1 := splice_size hcur1.symm hf1
        have hg1 := splice_arr hcur1.symm hf1
        have hf2 : i * 2 + [s1, s2].length ≤ cur1.size := by rw [hs1, x4]; simp; omega
        have e22 : ∀ l : List Value, l.drop (i * 2 + 2) = l.drop (i * 2 + [s1, s2].length) := fun l => rfl
        rw [e22] at hw
        generalize hcur2 : (cur1.toList.take (i * 2) ++ [s1, s2] ++ cur1.toList.drop (i * 2 + [s1, s2].length)).toArray = cur2 at hw
        have hs2 := splice_size hcur2.symm hf2
        have hg2 := splice_arr hcur2.symm hf2
        subst hw
        have hgd : w.drew.heap[g]? = some (.cells c 91 (0, 0)) := x1
        have hh1 : (w.drew.setRow g cur1).heap[g]? = some (.cells cur1 91 (0, 0)) := setRow_heap w.drew g c cur1 91 (0, 0) hgd
        refine ⟨by rw [setRow_size, setRow_size]; exact Nat.le_refl _, ⟨rfl, rfl⟩, fun b y hb hy => ?_, .inl hbk, cap, cur2, by rw [hyl], setRow_heap _ g cur1 cur2 91 (0, 0) hh1, by rw [hyl]; exact hroom, x3, by rw [hs2, hs1, x4], ?_⟩
        · have hbg : b ≠ g := fun e => hb (by rw [hbk, e])
          rw [setRow_other _ g b _ hbg, setRow_other _ g b _ hbg]; exact hy
        · refine CellsOk.ins y3 hcs hi (fun q hq => ?_) (fun q hq => ?_) (fun q hq1 hq2 => ?_)
          · rw [hg2, if_pos hq, hg1, if_pos (by omega)]
          · rw [hg2, if_neg (by omega), if_pos (by simp; omega), Nat.add_sub_cancel_left]
          · rw [hg2, if_neg (by omega), if_neg (by simp; omega), hg1, if_neg (by omega), if_pos (by rw [hdl]; omega)]
            rw [← hdg q hq1 hq2]; congr 1; omega
      · -- a new row
        refine (ins_grow g ob.xs.length cap i vb voff vc c s1 s2 w hlt x2 (by omega) hb x1 x4 c1 c2 hvlt o1 o2 hoc' _ rfl _ _ _ rfl rfl rfl).mono fun e w' ⟨he, hw⟩ => ?_
        refine ⟨_, w.heap.size, he, ?_⟩
        have hGn := grownCap_ge w (ob.xs.length + 1) cap 91
        have hGm := grownCap_le_maxLen w (ob.xs.length + 1) cap 91 hmax
        generalize grownCap w (ob.xs.length + 1) cap 91 = G at hw hGn hGm ⊢
        generalize hrow : (c.toList.take (i * 2)).toArray ++ Builtin.zeroCells (Value.agg #[.string ⟨#[]⟩, .string ⟨#[]⟩]).cells (ob.xs.length + 1 - i) ++ Builtin.zeroCells (Value.agg #[.string ⟨#[]⟩, .string ⟨#[]⟩]).cells (G - (ob.xs.length + 1)) = row at hw
        have hrs : row.size = G * 2 := by
          rw [← hrow]
          simp [Builtin.zeroCells, Value.cells, x4]
          omega
        have hrg : ∀ q, q < i * 2 → row[q]? = c[q]? := fun q hq => by
          rw [← hrow, Array.getElem?_append_left (by simp [Builtin.zeroCells, Value.cells, x4]; omega), Array.getElem?_append_left (by simp [x4]; omega)]
          simp [List.getElem?_take, hq]
        have hf1 : i * 2 + [s1, s2].length ≤ row.size := by rw [hrs]; simp; omega
        have e22 : ∀ l : List Value, l.drop (i * 2 + 2) = l.drop (i * 2 + [s1, s2].length) := fun l => rfl
        rw [e22] at hw
        generalize hcur1 : (row.toList.take (i * 2) ++ [s1, s2] ++ row.toList.drop (i * 2 + [s1, s2].length)).toArray = cur1 at hw
        have hs1 := splice_size hcur1.symm hf1
        have hg1 := splice_arr hcur1.symm hf1
        have hf2 : (i + 1) * 2 + ((c.toList.take (ob.xs.length * 2)).drop (i * 2)).length ≤ cur1.size := by rw [hdl, hs1, hrs]; omega
        generalize hcur2 : (cur1.toList.take ((i + 1) * 2) ++ (c.toList.take (ob.xs.length * 2)).drop (i * 2) ++ cur1.toList.drop ((i + 1) * 2 + ((c.toList.take (ob.xs.length * 2)).drop (i * 2)).length)).toArray = cur2 at hw
        have hs2 := splice_size hcur2.symm hf2
        have hg2 := splice_arr hcur2.symm hf2
        subst hw
        have hN : (w.drew.alloc (.cells row 91)).heap[w.heap.size]? = some (.cells row 91 (0, 0)) := heap_alloc_new w.drew _
        have hN1 : (((w.drew.alloc (.cells row 91)).setRow w.heap.size cur1).drew).heap[w.heap.size]? = some (.cells cur1 91 (0, 0)) := setRow_heap _ w.heap.size row cur1 91 (0, 0) hN
        have hgr : Grew w (w.drew.alloc (.cells row 91)) := .push rfl
        refine ⟨by rw [setRow_size]; show w.heap.size ≤ ((w.drew.alloc (.cells row 91)).setRow w.heap.size cur1).heap.size; rw [setRow_size]; exact hgr.1, hgr.2.2, fun b y hb hy => ?_, .inr (Nat.le_refl _), G, cur2, by rw [hyl], setRow_heap _ w.heap.size cur1 cur2 91 (0, 0) hN1, by rw [hyl]; exact hGn, hGm, by rw [hs2, hs1, hrs], ?_⟩
        · have hbs : b ≠ w.heap.size := by have := (Array.getElem?_eq_some_iff.1 hy).1; omega
          rw [setRow_other _ w.heap.size b _ hbs]
          show ((w.drew.alloc (.cells row 91)).setRow w.heap.size cur1).heap[b]? = some y
          rw [setRow_other _ w.heap.size b _ hbs]
          exact hgr.2.1 b y hy
        · refine CellsOk.ins y3 hcs hi (fun q hq => ?_) (fun q hq => ?_) (fun q hq1 hq2 => ?_)
          · rw [hg2, if_pos (by omega), hg1, if_pos hq, hrg q hq]
          · rw [hg2, if_pos (by omega), hg1, if_neg (by omega), if_pos (by simp; omega), Nat.add_sub_cancel_left]
          · rw [hg2, if_neg (by omega), if_pos (by rw [hdl]; omega), ← hdg q hq1 hq2]
            congr 1; omega

theorem insert_use {objs : List Obj} {k ver : Nat} {ob : Obj} {x : PV} {k2 ver2 : Nat} {ob2 : Obj} {i : Nat} (g1 : objs[k2]? = some ob2) (g2 : ob2.live = true) (g3 : ob2.ver = ver2) (g4 : ob2.sz = 2) (g5 : ob2.xs = [x]) (hkk : k2 ≠ k) (h1 : objs[k]? = some ob) (h2 : ob.live = true) (h3 : ob.ver = ver)
    (h4 : ob.sz = 2) (hty : ob.ty = 91) (hall : ∀ y ∈ ob.xs, two y) (hx : two x) (hi : i ≤ ob.xs.length) (hb : (ob.xs.length + 1) * 32 ≤ 140737488355328) :
    FnUse Try.prog 111 [.osl k ver, .int .i64 i, .osl k2 ver2] objs (.osl k (ver + 1)) (objs.set k { ob with xs := ob.xs.take i ++ [x] ++ ob.xs.drop i, ver := ver + 1 }) := by
  refine ⟨enters_ins, by simp, fun base prot w0 tmps blk a w vs R hargs => ?_⟩
  obtain ⟨v0, v1, v2, rfl, r0, r1, r2⟩ := three hargs
  have e1 := r1.int
  subst e1
  refine (insert_left R h1 h2 h3 h4 hty g1 g2 g3 g4 g5 hkk hall hx hi hb r0 r2).mono fun e w' ⟨v', gb, he, L⟩ => ?_
  obtain ⟨e3, e4⟩ := L.rel R h1 h2 h3 h4 hty
  exact ⟨v', _, he, e3, e4⟩

theorem delete_use {objs : List Obj} {k ver : Nat} {ob : Obj} {i : Nat} (h1 : objs[k]? = some ob) (h2 : ob.live = true) (h3 : ob.ver = ver)
    (h4 : ob.sz = 2) (hty : ob.ty = 91) (hall : ∀ y ∈ ob.xs, two y) (hi : i < ob.xs.length) :
    FnUse Try.prog 98 [.osl k ver, .int .i64 i, .int .i64 ((i : Int) + 1)] objs (.osl k (ver + 1)) (objs.set k { ob with xs := ob.xs.take i ++ ob.xs.drop (i + 1), ver := ver + 1 }) := by
  refine ⟨enters_del, by simp, fun base prot w0 tmps blk a w vs R hargs => ?_⟩
  obtain ⟨v0, v1, v2, rfl, r0, r1, r2⟩ := three hargs
  have e1 := r1.int
  have e2 := r2.int
  subst e1; subst e2
  have hh := r0.osl h1 h2 h3
  unfold Hdr at hh
  have hone : ∀ y, two y → ∀ p ∈ y.cells, ∀ v, RepS w (okL base objs blk) objs blk p v → v.oneCell' = true := fun y hy p hp v hv => (one_of_solid hv (List.all_eq_true.1 hy.2 p hp)).1
  rcases opt_or (blk k) with hbk | ⟨g, hbk⟩
  · rw [hbk] at hh; rw [hh.2] at hi; simp at hi
  · rw [hbk] at hh
    obtain ⟨cap, c, rfl, x1, x2, x3, x4⟩ := hh
    obtain ⟨c', y1, y2, y3⟩ := obj_cells R h1 h2 hbk
    rw [x1] at y1; cases y1
    rw [hty] at x1
    rw [h4] at x4 y3
    have hc63 : cap ≤ 9223372036854775807 := by unfold maxLen at x3; omega
    have hoc : ∀ v ∈ c.toList.take (ob.xs.length * 2), v.oneCell' = true :=
      cells_one (CellsOk.take y3) (by simp [x4]; omega) (fun y hy => hone y (hall y hy))
    have hdl : ((c.toList.take (ob.xs.length * 2)).drop ((i + 1) * 2)).length = (ob.xs.length - (i + 1)) * 2 := by simp [x4]; omega
    have hdg : ∀ q, i * 2 ≤ q → q < (ob.xs.length - 1) * 2 → ((c.toList.take (ob.xs.length * 2)).drop ((i + 1) * 2))[q - i * 2]? = c[q + 2]? := fun q hq1 hq2 => by
      rw [List.getElem?_drop, List.getElem?_take, show (i + 1) * 2 + (q - i * 2) = q + 2 by omega, if_pos (by omega)]; simp
    have hyl : (ob.xs.take i ++ ob.xs.drop (i + 1)).length = ob.xs.length - 1 := by simp; omega
    refine (del_walk g ob.xs.length cap i c w hi x2 hc63 x1 x4 (fun v hv => hoc v (List.mem_of_mem_drop hv)) _ _ rfl rfl).mono fun e w' ⟨he, hw⟩ => ?_
    generalize hcur1 : (c.toList.take (i * 2) ++ (c.toList.take (ob.xs.length * 2)).drop ((i + 1) * 2) ++ c.toList.drop (i * 2 + ((c.toList.take (ob.xs.length * 2)).drop ((i + 1) * 2)).length)).toArray = cur1 at hw
    have hf1 : i * 2 + ((c.toList.take (ob.xs.length * 2)).drop ((i + 1) * 2)).length ≤ c.size := by rw [hdl, x4]; omega
    have hs1 := splice_size hcur1.symm hf1
    have hg1 := splice_arr hcur1.symm hf1
    have e22 : ∀ l : List Value, l.drop ((ob.xs.length - 1) * 2 + 2) = l.drop ((ob.xs.length - 1) * 2 + [Value.string ⟨#[]⟩, Value.string ⟨#[]⟩].length) := fun l => rfl
    rw [e22] at hw
    have hf2 : (ob.xs.length - 1) * 2 + [Value.string ⟨#[]⟩, Value.string ⟨#[]⟩].length ≤ cur1.size := by rw [hs1, x4]; simp; omega
    generalize hcur2 : (cur1.toList.take ((ob.xs.length - 1) * 2) ++ [Value.string ⟨#[]⟩, Value.string ⟨#[]⟩] ++ cur1.toList.drop ((ob.xs.length - 1) * 2 + [Value.string ⟨#[]⟩, Value.string ⟨#[]⟩].length)).toArray = cur2 at hw
    have hs2 := splice_size hcur2.symm hf2
    have hg2 := splice_arr hcur2.symm hf2
    subst hw
    have hgd : w.drew.heap[g]? = some (.cells c 91 (0, 0)) := x1
    have hh1 : (w.drew.setRow g cur1).heap[g]? = some (.cells cur1 91 (0, 0)) := setRow_heap w.drew g c cur1 91 (0, 0) hgd
    have L : Left (RepS w (okL base objs blk) objs blk) (blk k) w (ob.xs.take i ++ ob.xs.drop (i + 1)) (.slice (some ⟨g, 0, none⟩) (ob.xs.length - 1) cap) ((w.drew.setRow g cur1).setRow g cur2) g := by
      refine ⟨by rw [setRow_size, setRow_size]; exact Nat.le_refl _, ⟨rfl, rfl⟩, fun b y hb hy => ?_, .inl hbk, cap, cur2, by rw [hyl], setRow_heap _ g cur1 cur2 91 (0, 0) hh1, by rw [hyl]; omega, x3, by rw [hs2, hs1, x4], ?_⟩
      · have hbg : b ≠ g := fun e => hb (by rw [hbk, e])
        rw [setRow_other _ g b _ hbg, setRow_other _ g b _ hbg]; exact hy
      · refine CellsOk.del y3 hi (fun q hq => ?_) (fun q hq1 hq2 => ?_)
        · rw [hg2, if_pos (by omega), hg1, if_pos hq]
        · rw [hg2, if_pos hq2, hg1, if_neg (by omega), if_pos (by rw [hdl]; omega), hdg q hq1 hq2]
    obtain ⟨g1, g2⟩ := L.rel R h1 h2 h3 h4 hty
    exact ⟨_, _, he, g1, g2⟩

end
end Lp

/-! LpW44 -/

namespace Lp
open Go Go.Proofs

set_option maxHeartbeats 4000000
set_option maxRecDepth 20000
set_option linter.unusedSimpArgs false

/-! ### Plain: where it stands -/

theorem posF_le (l : List Fl) (s : List UInt8) : posF l s ≤ l.length := by
  have := (List.takeWhile_prefix (l := l) (fun f => Op.bytesLess f.name s)).length_le
  exact this

theorem ris_tail {a : Fl} {l : List Fl} (h : RisF (a :: l)) : RisF l := by
  cases l with
  | nil => trivial
  | cons b l => exact h.2

theorem ris_gt {a : Fl} {l : List Fl} (h : RisF (a :: l)) : ∀ b ∈ l, Op.bytesLess a.name b.name = true := by
  intro b hb
  obtain ⟨k, hk, rfl⟩ := List.mem_iff_getElem.1 hb
  exact ris_lt h (j := 0) (k := k + 1) (by omega) rfl (by simp [hk])

theorem has_gt {a : Fl} {l : List Fl} {s : List UInt8} (h : RisF (a :: l)) (hs : s = a.name ∨ Op.bytesLess s a.name = true) : hasF l s = false := by
  rw [hasF, List.any_eq_false]
  intro b hb
  simp only [decide_eq_true_eq]
  intro e
  have h1 := ris_gt h b hb
  rcases hs with rfl | hs
  · rw [e, bl_irrefl] at h1; cases h1
  · have := bl_trans _ _ _ hs h1
    rw [e, bl_irrefl] at this; cases this

theorem pos_lt {l : List Fl} {s : List UInt8} (hl : RisF l) (h : hasF l s = true) : ∃ f, l[posF l s]? = some f ∧ f.name = s := by
  induction l with
  | nil => simp [hasF] at h
  | cons a l ih =>
    rcases bl_tri a.name s with h1 | h1 | h1
    · have hne : a.name ≠ s := fun e => by rw [e, bl_irrefl] at h1; cases h1
      have h2 : hasF l s = true := by simpa [hasF, hne] using h
      obtain ⟨f, hf, hn⟩ := ih (ris_tail hl) h2
      exact ⟨f, by simp only [posF, List.takeWhile_cons, h1, if_true, List.length_cons, List.getElem?_cons_succ]; exact hf, hn⟩
    · refine ⟨a, ?_, h1⟩
      have : Op.bytesLess a.name s = false := by rw [h1, bl_irrefl]
      simp [posF, List.takeWhile_cons, this]
    · have hne : a.name ≠ s := fun e => by rw [e, bl_irrefl] at h1; cases h1
      rw [hasF, List.any_cons, decide_eq_false hne, Bool.false_or] at h
      rw [show (l.any fun f => decide (f.name = s)) = hasF l s from rfl, has_gt hl (.inr h1)] at h
      cases h

theorem lay_set {l : List Fl} {f : Fl} (hl : RisF l) (h : hasF l f.name = true) : l.set (posF l f.name) f = layF l f := by
  induction l with
  | nil => simp [hasF] at h
  | cons a l ih =>
    rcases bl_tri a.name f.name with h1 | h1 | h1
    · have hne : a.name ≠ f.name := fun e => by rw [e, bl_irrefl] at h1; cases h1
      have h2 : hasF l f.name = true := by simpa [hasF, hne] using h
      have := ih (ris_tail hl) h2
      simp only [layF, h1, if_true]
      rw [← this]
      simp [posF, List.takeWhile_cons, h1]
    · have h2 : Op.bytesLess a.name f.name = false := by rw [h1, bl_irrefl]
      simp [layF, h2, h1, posF, List.takeWhile_cons, bl_irrefl]
    · have hne : a.name ≠ f.name := fun e => by rw [e, bl_irrefl] at h1; cases h1
      rw [hasF, List.any_cons, decide_eq_false hne, Bool.false_or] at h
      rw [show (l.any fun g => decide (g.name = f.name)) = hasF l f.name from rfl, has_gt hl (.inr h1)] at h
      cases h

theorem lay_ins {l : List Fl} {f : Fl} (h : hasF l f.name = false) : l.take (posF l f.name) ++ [f] ++ l.drop (posF l f.name) = layF l f := by
  induction l with
  | nil => rfl
  | cons a l ih =>
    rw [hasF, List.any_cons, Bool.or_eq_false_iff, decide_eq_false_iff_not] at h
    have h2 := ih h.2
    cases h1 : Op.bytesLess a.name f.name with
    | true =>
      simp only [layF, h1, if_true]
      rw [← h2]
      simp [posF, List.takeWhile_cons, h1]
    | false => simp [layF, h1, h.1, posF, List.takeWhile_cons]

theorem drp_at {l : List Fl} {s : List UInt8} (hl : RisF l) (h : hasF l s = true) : l.take (posF l s) ++ l.drop (posF l s + 1) = drpF l s := by
  induction l with
  | nil => simp [hasF] at h
  | cons a l ih =>
    rcases bl_tri a.name s with h1 | h1 | h1
    · have hne : a.name ≠ s := fun e => by rw [e, bl_irrefl] at h1; cases h1
      have h2 : hasF l s = true := by simpa [hasF, hne] using h
      have := ih (ris_tail hl) h2
      have hd : drpF (a :: l) s = a :: drpF l s := by simp [drpF, hne]
      rw [hd, ← this]
      simp [posF, List.takeWhile_cons, h1]
    · have h2 : Op.bytesLess a.name s = false := by rw [h1, bl_irrefl]
      have h3 := has_gt hl (s := s) (.inl h1.symm)
      have hd : drpF (a :: l) s = l := by
        simp only [drpF, List.filter_cons, h1, decide_true, Bool.not_true, Bool.false_eq_true, if_false]
        rw [List.filter_eq_self]
        intro b hb
        rw [hasF, List.any_eq_false] at h3
        simpa using h3 b hb
      rw [hd]
      simp [posF, List.takeWhile_cons, h2]
    · have hne : a.name ≠ s := fun e => by rw [e, bl_irrefl] at h1; cases h1
      rw [hasF, List.any_cons, decide_eq_false hne, Bool.false_or] at h
      rw [show (l.any fun g => decide (g.name = s)) = hasF l s from rfl, has_gt hl (.inr h1)] at h
      cases h

theorem get_at {l : List Fl} {s : List UInt8} (hl : RisF l) {f : Fl} (h : l[posF l s]? = some f) (hn : f.name = s) : getF l s = f.s := by
  induction l with
  | nil => simp at h
  | cons a l ih =>
    rcases bl_tri a.name s with h1 | h1 | h1
    · have hne : a.name ≠ s := fun e => by rw [e, bl_irrefl] at h1; cases h1
      simp only [posF, List.takeWhile_cons, h1, if_true, List.length_cons, List.getElem?_cons_succ] at h
      have := ih (ris_tail hl) h
      simpa [getF, hne] using this
    · have h2 : Op.bytesLess a.name s = false := by rw [h1, bl_irrefl]
      simp only [posF, List.takeWhile_cons, h2, Bool.false_eq_true, if_false, List.length_nil, List.getElem?_cons_zero, Option.some.injEq] at h
      subst h
      simp [getF, h1]
    · have h2 : Op.bytesLess a.name s = false := bl_asymm _ _ h1
      simp only [posF, List.takeWhile_cons, h2, Bool.false_eq_true, if_false, List.length_nil, List.getElem?_cons_zero, Option.some.injEq] at h
      subst h
      rw [hn, bl_irrefl] at h1; cases h1

theorem ris_cons {a : Fl} {l : List Fl} (h1 : ∀ b ∈ l, Op.bytesLess a.name b.name = true) (h2 : RisF l) : RisF (a :: l) := by
  cases l with
  | nil => trivial
  | cons b l => exact ⟨h1 b (by simp), h2⟩

theorem ris_drp {l : List Fl} (s : List UInt8) (h : RisF l) : RisF (drpF l s) := by
  induction l with
  | nil => trivial
  | cons a l ih =>
    have h1 := ris_gt h
    have h2 := ih (ris_tail h)
    simp only [drpF, List.filter_cons]
    split
    · exact ris_cons (fun b hb => h1 b ((List.mem_filter.1 hb).1)) h2
    · exact h2

theorem mem_lay {l : List Fl} {f g : Fl} (h : g ∈ layF l f) : g = f ∨ g ∈ l := by
  induction l with
  | nil => simp [layF] at h; exact .inl h
  | cons a l ih =>
    simp only [layF] at h
    split at h
    · rcases List.mem_cons.1 h with rfl | h
      · exact .inr (by simp)
      · rcases ih h with h | h
        · exact .inl h
        · exact .inr (by simp [h])
    · split at h
      · rcases List.mem_cons.1 h with rfl | h
        · exact .inl rfl
        · exact .inr (by simp [h])
      · rcases List.mem_cons.1 h with rfl | h
        · exact .inl rfl
        · exact .inr h

theorem ris_lay {l : List Fl} (f : Fl) (h : RisF l) : RisF (layF l f) := by
  induction l with
  | nil => trivial
  | cons a l ih =>
    have h1 := ris_gt h
    have h2 := ris_tail h
    simp only [layF]
    split
    · rename_i h3
      refine ris_cons (fun b hb => ?_) (ih h2)
      rcases mem_lay hb with rfl | hb
      · exact h3
      · exact h1 b hb
    · rename_i h3
      split
      · rename_i h4
        exact ris_cons (fun b hb => by rw [← h4]; exact h1 b hb) h2
      · rename_i h4
        have h5 : Op.bytesLess f.name a.name = true := by
          rcases bl_tri f.name a.name with h | h | h
          · exact h
          · exact absurd h.symm h4
          · exact absurd h h3
        exact ris_cons (fun b hb => by
          rcases List.mem_cons.1 hb with rfl | hb
          · exact h5
          · exact bl_trans _ _ _ h5 (h1 b hb)) h

theorem lay_length (l : List Fl) (f : Fl) : (layF l f).length ≤ l.length + 1 := by
  induction l with
  | nil => simp [layF]
  | cons a l ih =>
    simp only [layF]
    split
    · simp; omega
    · split <;> simp

/-! ### Contracts that own -/

def mapF (l : List Fl) : List PV := l.map encF
/-- What cells are read back of a row of files. -/
def ofR {K : List Fl → Prop} (x : List PV) (_h : HK K) : Prop := ∃ l, x = l.map encF ∧ K l

theorem ofR_eq (K : List Fl → Prop) (l : List Fl) : ofR (l.map encF) (HK.mk : HK K) = K l := by
  refine propext ⟨fun ⟨m, h, hk⟩ => ?_, fun hk => ⟨l, rfl, hk⟩⟩
  have : encFs l = encFs m := by rw [hF, hF, h]
  rw [encFs_inj _ _ this]; exact hk

theorem ofR1 (K : List Fl → Prop) (f : Fl) : ofR [encF f] (HK.mk : HK K) = K [f] := ofR_eq K [f]

def ctrClone : Ctr := fun args objs K => match args with
  | [a] => ofE encFs a (HK.mk : HK fun l => l.length ≤ 1000000 ∧ K (.osl objs.length 0) (objs ++ [objF l]) 2)
  | _ => False

theorem ctrClone_ok : CtrOk Try.prog f_slices_Clone_L_api_File_api_File_ ctrClone := by
  intro args objs K h
  unfold ctrClone at h
  split at h
  · obtain ⟨l, rfl, h1, h2⟩ := h
    refine ⟨_, _, _, .made (.osl 0 0) (objF l) rfl (noRefs_objF l) (cloneF_spec l h1), ?_⟩
    simpa [PV.shift, PV.shiftS] using h2
  · exact h.elim

/-- An owned row of files. -/
def ownF (objs : List Obj) (k ver : Nat) {K : List Fl → Prop} (h : HK K) : Prop := ∃ o, objs[k]? = some o ∧ o.live = true ∧ o.ver = ver ∧ o.sz = 2 ∧ o.ty = t_api_File ∧ ofR o.xs h

/-- A row of files, owned (1) or not (0). -/
def slF (a : PV) (objs : List Obj) {K : List Fl × Nat → Prop} (_h : HK K) : Prop := match a with
  | .osl k ver => ownF objs k ver (HK.mk : HK fun l => K (l, 1))
  | a => ofE encFs a (HK.mk : HK fun l => K (l, 0))

theorem slF_r (objs : List Obj) (K : List Fl × Nat → Prop) : (∀ l, slF (encFs l) objs (HK.mk : HK K) = K (l, 0)) ∧ (∀ k ver, slF (.osl k ver) objs (HK.mk : HK K) = ownF objs k ver (HK.mk : HK fun l => K (l, 1))) :=
  ⟨fun l => ofE_inj encFs_inj (fun l => K (l, 0)) l, fun _ _ => rfl⟩

theorem slF_cases {a : PV} {objs : List Obj} {K : List Fl × Nat → Prop} (h : slF a objs (HK.mk : HK K)) :
    (∃ k ver o l, a = .osl k ver ∧ objs[k]? = some o ∧ o.live = true ∧ o.ver = ver ∧ o.sz = 2 ∧ o.xs = l.map encF ∧ K (l, 1)) ∨ (∃ l, a = encFs l ∧ K (l, 0)) := by
  by_cases ha : ∃ k ver, a = .osl k ver
  · obtain ⟨k, ver, rfl⟩ := ha
    obtain ⟨o, h1, h2, h3, h4, _, l, h5, h6⟩ := h
    exact .inl ⟨k, ver, o, l, rfl, h1, h2, h3, h4, h5, h6⟩
  · have : slF a objs (HK.mk : HK K) = ofE encFs a (HK.mk : HK fun l => K (l, 0)) := by
      cases a <;> first | rfl | exact absurd ⟨_, _, rfl⟩ ha
    rw [this] at h
    obtain ⟨l, h1, h2⟩ := h
    exact .inr ⟨l, h1, h2⟩

theorem lend_row {objs : List Obj} {k ver : Nat} {o : Obj} {l : List Fl} (h1 : objs[k]? = some o) (h2 : o.live = true) (h3 : o.ver = ver) (h4 : o.sz = 2) (h5 : o.xs = l.map encF) : lend objs (.osl k ver) (encFs l) := by
  refine ⟨o, h1, h2, h3, fun x hx c hc => ?_, by rw [h4, h5]; rfl⟩
  rw [h5] at hx
  exact atom_noref (atoms_objF l x hx c hc)

def ctrFind : Ctr := fun args objs K => match args with
  | [a, .str s] => slF a objs (HK.mk : HK fun p => RisF p.1 ∧ p.1.length ≤ 1000000 ∧ K (.tup [.int .i64 (posF p.1 s), .bool (hasF p.1 s)]) objs p.2)
  | _ => False

theorem ctrFind_ok : CtrOk Try.prog f_file_find ctrFind := by
  intro args objs K h
  unfold ctrFind at h
  split at h
  · rename_i a s
    rcases slF_cases h with ⟨k, ver, o, l, rfl, h1, h2, h3, h4, h5, h6, h7, h8⟩ | ⟨l, rfl, h6, h7, h8⟩
    · exact ⟨_, _, _, .lent _ [encFs l, .str s] ⟨lend_row h1 h2 h3 h4 h5, ⟨rfl, rfl⟩, trivial⟩ rfl (ffind_spec l s h6 h7), h8⟩
    · exact ⟨_, _, _, .pure _ rfl (ffind_spec l _ h6 h7), h8⟩
  · exact h.elim

theorem two_encF (l : List Fl) : ∀ y ∈ l.map encF, two y := by
  intro y hy
  obtain ⟨f, _, rfl⟩ := List.mem_map.1 hy
  exact ⟨rfl, rfl⟩

def ctrInsert : Ctr := fun args objs K => match args with
  | [.osl k ver, .int .i64 i, .osl k2 ver2] => ownF objs k ver (HK.mk : HK fun l => ownF objs k2 ver2 (HK.mk : HK fun fs => ¬ k2 = k ∧ 0 ≤ i ∧ i.toNat ≤ l.length ∧ l.length ≤ 1000000 ∧ ∃ f, fs = [f] ∧
      K (.osl k (ver + 1)) (objs.set k ⟨t_api_File, 2, (l.take i.toNat ++ [f] ++ l.drop i.toNat).map encF, true, ver + 1⟩) 2))
  | _ => False

theorem ctrInsert_ok : CtrOk Try.prog f_slices_Insert_L_api_File_api_File_ ctrInsert := by
  intro args objs K h
  unfold ctrInsert at h
  split at h
  · rename_i k ver i k2 ver2
    obtain ⟨o, h1, h2, h3, h4, h5, l, h6, o2, g1, g2, g3, g4, _, fs, g5, hkk, h7, h8, h9, f, rfl, h10⟩ := h
    obtain ⟨n, rfl⟩ : ∃ n : Nat, i = n := ⟨i.toNat, by omega⟩
    rw [Int.toNat_natCast] at h8 h10
    obtain ⟨ty, sz, xs, live, vr⟩ := o
    simp only [] at h2 h3 h4 h5 h6
    subst h2; subst h3; subst h4; subst h5; subst h6
    have hu := insert_use (objs := objs) (k := k) (x := encF f) (i := n) g1 g2 g3 g4 g5 hkk h1 rfl rfl rfl rfl (two_encF l) ⟨rfl, rfl⟩ (by simpa using h8) (by simp; omega)
    refine ⟨_, _, _, .used _ _ hu, ?_⟩
    have e : (l.map encF).take n ++ [encF f] ++ (l.map encF).drop n = (l.take n ++ [f] ++ l.drop n).map encF := by simp
    rw [e]
    exact h10
  · exact h.elim

def ctrDelete : Ctr := fun args objs K => match args with
  | [.osl k ver, .int .i64 i, .int .i64 j] => ownF objs k ver (HK.mk : HK fun l => 0 ≤ i ∧ j = i + 1 ∧ i.toNat < l.length ∧
      K (.osl k (ver + 1)) (objs.set k ⟨t_api_File, 2, (l.take i.toNat ++ l.drop (i.toNat + 1)).map encF, true, ver + 1⟩) 2)
  | _ => False

theorem ctrDelete_ok : CtrOk Try.prog f_slices_Delete_L_api_File_api_File_ ctrDelete := by
  intro args objs K h
  unfold ctrDelete at h
  split at h
  · rename_i k ver i j
    obtain ⟨o, h1, h2, h3, h4, h5, l, h6, h7, rfl, h8, h10⟩ := h
    obtain ⟨n, rfl⟩ : ∃ n : Nat, i = n := ⟨i.toNat, by omega⟩
    rw [Int.toNat_natCast] at h8 h10
    obtain ⟨ty, sz, xs, live, vr⟩ := o
    simp only [] at h2 h3 h4 h5 h6
    subst h2; subst h3; subst h4; subst h5; subst h6
    have hu := delete_use (objs := objs) (k := k) (i := n) h1 rfl rfl rfl rfl (two_encF l) (by simpa using h8)
    refine ⟨_, _, _, .used _ _ hu, ?_⟩
    have e : (l.map encF).take n ++ (l.map encF).drop (n + 1) = (l.take n ++ l.drop (n + 1)).map encF := by simp
    rw [e]
    exact h10
  · exact h.elim

theorem laid_spec (l : List Fl) (f : Fl) (hl : RisF l) (hlen : l.length ≤ 999999) : FnSpec Try.prog f_file_laid [encFs l, encF f] [] (.osl 0 0) [objF (layF l f)] := by
  refine k_file_laid.madeG (T := tabL Try.prog [(f_slices_Clone_L_api_File_api_File_, ctrClone), (f_file_find, ctrFind), (f_slices_Insert_L_api_File_api_File_, ctrInsert)]) 0 hD (kOk_tabL (tabOk_cons ctrClone_ok (tabOk_cons ctrFind_ok (tabOk_cons ctrInsert_ok tabOk_nil)))) hmix fun Q hQ => ?_
  try simp only [F_all]
  simp (maxSteps := 400000) only [↓preZ, postZ, coreZ, ↓preF, postF, D_all, F_all, unR, outL, onePV, binS, ↓binS, boundR, ↓boundR, fieldOf, ↓fieldOf, boxR, allocR, newObj, zeroElem, buildSliceR, appendR, setAll, storeR, St.freeze, makeSliceR, minmaxR, makeFuncR, BEq.rfl, reduceIte, reduceCtorEq, Nat.reduceLT, Nat.reduceAdd, Nat.reduceSub, Nat.reduceMul, Nat.reduceBEq, Nat.reduceLeDiff, Int.reduceToNat, Int.reduceLE, hQ, c_file_laid]
  refine wpc_weak _ (Weak.freeze 1 0 (Nat.zero_le _) _) ?_
  have h1 : (l.length ≤ 1000000) = True := eq_true (by omega)
  have hr := eq_true hl
  have hp : (posF l f.name ≤ l.length) = True := eq_true (posF_le l f.name)
  cases hh : hasF l f.name
  · simp (maxSteps := 400000) only [↓preZ, postZ, coreZ, ↓preF, postF, D_all, F_all, unR, outL, onePV, binS, ↓binS, boundR, ↓boundR, fieldOf, ↓fieldOf, boxR, allocR, newObj, zeroElem, buildSliceR, appendR, setAll, storeR, St.freeze, makeSliceR, minmaxR, makeFuncR, BEq.rfl, reduceIte, reduceCtorEq, Nat.reduceLT, Nat.reduceAdd, Nat.reduceSub, Nat.reduceMul, Nat.reduceBEq, Nat.reduceLeDiff, Int.reduceToNat, Int.reduceLE, hQ, ↓ctrClone, ↓ctrFind, ↓ctrInsert, slF_r, ownF, ofR_eq, ofR1, objF, h1, hr, hp, hh]
    refine ⟨by omega, f, rfl, endM (k := 0) (ver := 1) rfl rfl rfl rfl ?_ (noRefs_objF _)⟩
    rw [lay_ins hh]
    simp only [frzO, map_frzF]
  · simp (maxSteps := 400000) only [↓preZ, postZ, coreZ, ↓preF, postF, D_all, F_all, unR, outL, onePV, binS, ↓binS, boundR, ↓boundR, fieldOf, ↓fieldOf, boxR, allocR, newObj, zeroElem, buildSliceR, appendR, setAll, storeR, St.freeze, makeSliceR, minmaxR, makeFuncR, BEq.rfl, reduceIte, reduceCtorEq, Nat.reduceLT, Nat.reduceAdd, Nat.reduceSub, Nat.reduceMul, Nat.reduceBEq, Nat.reduceLeDiff, Int.reduceToNat, Int.reduceLE, hQ, ↓ctrClone, ↓ctrFind, ↓ctrInsert, slF_r, ownF, ofR_eq, objF, h1, hr, hp, hh]
    obtain ⟨x, hx, hn⟩ := pos_lt hl hh
    have hlt := (List.getElem?_eq_some_iff.1 hx).1
    refine ⟨by omega, by omega, encF x, by rw [hx]; rfl, Nat.le_refl 2, (fun h => by cases h), endM (k := 0) (ver := 0) rfl rfl rfl rfl ?_ (noRefs_objF _)⟩
    have e : (l.map encF).set (posF l f.name) ((encF x).putCells 0 [PV.str f.name, PV.str f.s]) = (layF l f).map encF := by
      rw [← lay_set hl hh, List.map_set]; rfl
    simp only [e, frzO, map_frzF]

/-- Files with one, of files that are immutable, or an owned row. -/
def ctrLaid : Ctr := fun args objs K => match args with
  | [a, y] => ofE encF y (HK.mk : HK fun f => slF a objs (HK.mk : HK fun p => RisF p.1 ∧ p.1.length ≤ 999999 ∧ K (.osl objs.length 0) (objs ++ [objF (layF p.1 f)]) 2))
  | _ => False

theorem ctrLaid_ok : CtrOk Try.prog f_file_laid ctrLaid := by
  intro args objs K h
  unfold ctrLaid at h
  split at h
  · rename_i a y
    obtain ⟨f, rfl, h⟩ := h
    rcases slF_cases h with ⟨k, ver, o, l, rfl, h1, h2, h3, h4, h5, h6, h7, h8⟩ | ⟨l, rfl, h6, h7, h8⟩
    · exact ⟨_, _, _, .madeL 0 (objF (layF l f)) [encFs l, encF f] ⟨lend_row h1 h2 h3 h4 h5, ⟨rfl, rfl⟩, trivial⟩ (atoms_objF _) (laid_spec l f h6 h7), h8⟩
    · refine ⟨_, _, _, .made (.osl 0 0) (objF (layF l f)) rfl (noRefs_objF _) (laid_spec l f h6 h7), ?_⟩
      simpa [PV.shift, PV.shiftS] using h8
  · exact h.elim

end Lp

/-! LpW45 -/

namespace Lp
open Go Go.Proofs

set_option maxHeartbeats 4000000
set_option maxRecDepth 20000
set_option linter.unusedSimpArgs false

theorem may_kinds {x : De} (h : mayD x = true) : x.kind = 0 ∨ x.kind = 1 ∨ x.kind = 2 ∨ x.kind = 3 ∨ x.kind = 4 := by
  unfold mayD at h
  split at h
  · omega
  · split at h
    · omega
    · split at h
      · omega
      · split at h
        · omega
        · cases h

/-- No text of a file's is so long that one more could not be laid behind. -/
def bndF (l : List Fl) : Prop := ∀ f ∈ l, f.s.length ≤ 4611686018427387903

theorem fdone_spec (l : List Fl) (x : De) (hl : RisF l) (hlen : l.length ≤ 999998) (hb : bndF l) (hx : okX x) :
    FnSpec Try.prog f_file_done [encFs l, encX x] [] (.tup [encFs (if canF l x = true then doF l x else l), .bool (canF l x)]) [] := by
  refine k_file_done.pureG2 (T := tabL Try.prog [(f_file_may, ctrMay), (f_file_find, ctrFind), (f_file_laid, ctrLaid), (f_slices_Clone_L_api_File_api_File_, ctrClone), (f_slices_Delete_L_api_File_api_File_, ctrDelete)]) 1 hD (kOk_tabL (tabOk_cons ctrMay_ok (tabOk_cons ctrFind_ok (tabOk_cons ctrLaid_ok (tabOk_cons ctrClone_ok (tabOk_cons ctrDelete_ok tabOk_nil)))))) hmix (by decide) (by decide) fun Q hQ => ?_
  try simp only [F_all]
  simp (maxSteps := 400000) only [↓preZ, postZ, coreZ, ↓preF, postF, D_all, F_all, unR, outL, onePV, binS, ↓binS, boundR, ↓boundR, fieldOf, ↓fieldOf, boxR, allocR, newObj, zeroElem, buildSliceR, appendR, setAll, storeR, St.freeze, makeSliceR, minmaxR, makeFuncR, BEq.rfl, reduceIte, reduceCtorEq, Nat.reduceLT, Nat.reduceAdd, Nat.reduceSub, Nat.reduceMul, Nat.reduceBEq, Nat.reduceLeDiff, Int.reduceToNat, Int.reduceLE, hQ, c_file_done]
  refine wpc_weak _ (Weak.freeze 1 0 (Nat.zero_le _) _) ?_
  obtain ⟨k, nm, s⟩ := x
  have hx' := eq_true hx
  have h1 : (l.length ≤ 1000000) = True := eq_true (by omega)
  have h2 : (l.length ≤ 999999) = True := eq_true (by omega)
  have hr := eq_true hl
  cases hm : mayD ⟨k, nm, s⟩
  · have hc : canF l ⟨k, nm, s⟩ = false := by simp [canF, hm]
    simp (maxSteps := 400000) only [↓preZ, postZ, coreZ, ↓preF, postF, D_all, F_all, unR, outL, onePV, binS, ↓binS, boundR, ↓boundR, fieldOf, ↓fieldOf, boxR, allocR, newObj, zeroElem, buildSliceR, appendR, setAll, storeR, St.freeze, makeSliceR, minmaxR, makeFuncR, BEq.rfl, reduceIte, reduceCtorEq, Nat.reduceLT, Nat.reduceAdd, Nat.reduceSub, Nat.reduceMul, Nat.reduceBEq, Nat.reduceLeDiff, Int.reduceToNat, Int.reduceLE, hQ, ↓ctrMay, hx', hm, hc, if_false]
  have hk := may_kinds hm
  simp only [] at hk
  by_cases k0 : k = 0
  · subst k0
    have hc : canF l ⟨0, nm, s⟩ = true := by simp [canF, hm, needsD]
    have hd : doF l ⟨0, nm, s⟩ = layF l ⟨nm, []⟩ := by simp [doF, needsD]
    simp (maxSteps := 400000) only [↓preZ, postZ, coreZ, ↓preF, postF, D_all, F_all, unR, outL, onePV, binS, ↓binS, boundR, ↓boundR, fieldOf, ↓fieldOf, boxR, allocR, newObj, zeroElem, buildSliceR, appendR, setAll, storeR, St.freeze, makeSliceR, minmaxR, makeFuncR, BEq.rfl, reduceIte, reduceCtorEq, Nat.reduceLT, Nat.reduceAdd, Nat.reduceSub, Nat.reduceMul, Nat.reduceBEq, Nat.reduceLeDiff, Int.reduceToNat, Int.reduceLE, hQ, ↓ctrMay, ↓ctrFind, slF_r, ↓ctrLaid, objF, hx', hm, h1, h2, hr, hc, hd, if_true]
  by_cases k4 : k = 4
  · subst k4
    have hc : canF l ⟨4, nm, s⟩ = true := by simp [canF, hm, needsD]
    have hd : doF l ⟨4, nm, s⟩ = l := by simp [doF, needsD]
    simp (maxSteps := 400000) only [↓preZ, postZ, coreZ, ↓preF, postF, D_all, F_all, unR, outL, onePV, binS, ↓binS, boundR, ↓boundR, fieldOf, ↓fieldOf, boxR, allocR, newObj, zeroElem, buildSliceR, appendR, setAll, storeR, St.freeze, makeSliceR, minmaxR, makeFuncR, BEq.rfl, reduceIte, reduceCtorEq, Nat.reduceLT, Nat.reduceAdd, Nat.reduceSub, Nat.reduceMul, Nat.reduceBEq, Nat.reduceLeDiff, Int.reduceToNat, Int.reduceLE, hQ, ↓ctrMay, ↓ctrFind, slF_r, ↓ctrLaid, hx', hm, h1, h2, hr, hc, hd, if_true, Int.reduceEq]
  have e0 : (k = 0) = False := eq_false k0
  have e4 : (k = 4) = False := eq_false k4
  have hn : needsD ⟨k, nm, s⟩ = true := by simp [needsD]; omega
  cases hh : hasF l nm
  · have hc : canF l ⟨k, nm, s⟩ = false := by simp [canF, hn, hh]
    simp (maxSteps := 400000) only [↓preZ, postZ, coreZ, ↓preF, postF, D_all, F_all, unR, outL, onePV, binS, ↓binS, boundR, ↓boundR, fieldOf, ↓fieldOf, boxR, allocR, newObj, zeroElem, buildSliceR, appendR, setAll, storeR, St.freeze, makeSliceR, minmaxR, makeFuncR, BEq.rfl, reduceIte, reduceCtorEq, Nat.reduceLT, Nat.reduceAdd, Nat.reduceSub, Nat.reduceMul, Nat.reduceBEq, Nat.reduceLeDiff, Int.reduceToNat, Int.reduceLE, hQ, ↓ctrMay, ↓ctrFind, slF_r, hx', hm, h1, h2, hr, hc, hh, e0, e4, if_false]
  have hc : canF l ⟨k, nm, s⟩ = true := by simp [canF, hm, hh]
  obtain ⟨f, hf, hfn⟩ := pos_lt hl hh
  have hlt := (List.getElem?_eq_some_iff.1 hf).1
  have hg := get_at hl hf hfn
  have zp : (0 ≤ ((posF l nm : Nat) : Int)) = True := eq_true (by omega)
  have hbf := hb f (List.mem_of_getElem? hf)
  have hbs := hx.2
  simp only [] at hbs
  by_cases k1 : k = 1
  · subst k1
    have hd : doF l ⟨1, nm, s⟩ = layF l ⟨nm, f.s ++ s⟩ := by simp [doF, needsD, hh, hg]
    simp (maxSteps := 400000) only [↓preZ, postZ, coreZ, ↓preF, postF, D_all, F_all, unR, outL, onePV, binS, ↓binS, boundR, ↓boundR, fieldOf, ↓fieldOf, boxR, allocR, newObj, zeroElem, buildSliceR, appendR, setAll, storeR, St.freeze, makeSliceR, minmaxR, makeFuncR, BEq.rfl, reduceIte, reduceCtorEq, Nat.reduceLT, Nat.reduceAdd, Nat.reduceSub, Nat.reduceMul, Nat.reduceBEq, Nat.reduceLeDiff, Int.reduceToNat, Int.reduceLE, hQ, ↓ctrMay, ↓ctrFind, slF_r, hx', hm, h1, h2, hr, hc, hh, e0, e4, Int.reduceEq, zp, hf]
    refine wpc_weak _ (Weak.freeze 1 0 (Nat.zero_le _) _) ?_
    simp (maxSteps := 400000) only [↓preZ, postZ, coreZ, ↓preF, postF, D_all, F_all, unR, outL, onePV, binS, ↓binS, boundR, ↓boundR, fieldOf, ↓fieldOf, boxR, allocR, newObj, zeroElem, buildSliceR, appendR, setAll, storeR, St.freeze, makeSliceR, minmaxR, makeFuncR, BEq.rfl, reduceIte, reduceCtorEq, Nat.reduceLT, Nat.reduceAdd, Nat.reduceSub, Nat.reduceMul, Nat.reduceBEq, Nat.reduceLeDiff, Int.reduceToNat, Int.reduceLE, hQ, ↓ctrLaid, slF_r, objF, h2, hr, hc, hd, if_true, Int.reduceEq]
    omega
  have e1 : (k = 1) = False := eq_false k1
  have hdr := drp_at hl hh
  have hrd := eq_true (ris_drp nm hl)
  have hld : ((drpF l nm).length ≤ 999999) = True := eq_true (by have := drpF_length l nm; omega)
  have hlt' : (posF l nm < l.length) = True := eq_true hlt
  by_cases k2 : k = 2
  · subst k2
    have hd : doF l ⟨2, nm, s⟩ = layF (drpF l nm) ⟨s, f.s⟩ := by simp [doF, needsD, hh, hg]
    simp (maxSteps := 400000) only [↓preZ, postZ, coreZ, ↓preF, postF, D_all, F_all, unR, outL, onePV, binS, ↓binS, boundR, ↓boundR, fieldOf, ↓fieldOf, boxR, allocR, newObj, zeroElem, buildSliceR, appendR, setAll, storeR, St.freeze, makeSliceR, minmaxR, makeFuncR, BEq.rfl, reduceIte, reduceCtorEq, Nat.reduceLT, Nat.reduceAdd, Nat.reduceSub, Nat.reduceMul, Nat.reduceBEq, Nat.reduceLeDiff, Int.reduceToNat, Int.reduceLE, hQ, ↓ctrMay, ↓ctrFind, slF_r, hx', hm, h1, h2, hr, hc, hh, e0, e4, Int.reduceEq, zp, hf]
    refine wpc_weak _ (Weak.freeze 1 0 (Nat.zero_le _) _) ?_
    simp (maxSteps := 400000) only [↓preZ, postZ, coreZ, ↓preF, postF, D_all, F_all, unR, outL, onePV, binS, ↓binS, boundR, ↓boundR, fieldOf, ↓fieldOf, boxR, allocR, newObj, zeroElem, buildSliceR, appendR, setAll, storeR, St.freeze, makeSliceR, minmaxR, makeFuncR, BEq.rfl, reduceIte, reduceCtorEq, Nat.reduceLT, Nat.reduceAdd, Nat.reduceSub, Nat.reduceMul, Nat.reduceBEq, Nat.reduceLeDiff, Int.reduceToNat, Int.reduceLE, hQ, ↓ctrClone, ↓ctrDelete, ↓ctrLaid, slF_r, ownF, ofR_eq, objF, h1, h2, hr, hc, hd, if_true, Int.reduceEq, zp, hlt', hdr, hrd, hld]
    exact ⟨⟨by omega, by omega⟩, by decide⟩
  have e2 : (k = 2) = False := eq_false k2
  have k3 : k = 3 := by omega
  subst k3
  have hd : doF l ⟨3, nm, s⟩ = drpF l nm := by simp [doF, needsD, hh]
  simp (maxSteps := 400000) only [↓preZ, postZ, coreZ, ↓preF, postF, D_all, F_all, unR, outL, onePV, binS, ↓binS, boundR, ↓boundR, fieldOf, ↓fieldOf, boxR, allocR, newObj, zeroElem, buildSliceR, appendR, setAll, storeR, St.freeze, makeSliceR, minmaxR, makeFuncR, BEq.rfl, reduceIte, reduceCtorEq, Nat.reduceLT, Nat.reduceAdd, Nat.reduceSub, Nat.reduceMul, Nat.reduceBEq, Nat.reduceLeDiff, Int.reduceToNat, Int.reduceLE, hQ, ↓ctrMay, ↓ctrFind, slF_r, hx', hm, h1, h2, hr, hc, hh, e0, e4, Int.reduceEq, zp, hf]
  refine wpc_weak _ (Weak.freeze 1 0 (Nat.zero_le _) _) ?_
  simp (maxSteps := 400000) only [↓preZ, postZ, coreZ, ↓preF, postF, D_all, F_all, unR, outL, onePV, binS, ↓binS, boundR, ↓boundR, fieldOf, ↓fieldOf, boxR, allocR, newObj, zeroElem, buildSliceR, appendR, setAll, storeR, St.freeze, makeSliceR, minmaxR, makeFuncR, BEq.rfl, reduceIte, reduceCtorEq, Nat.reduceLT, Nat.reduceAdd, Nat.reduceSub, Nat.reduceMul, Nat.reduceBEq, Nat.reduceLeDiff, Int.reduceToNat, Int.reduceLE, hQ, ↓ctrClone, ↓ctrDelete, slF_r, ownF, ofR_eq, objF, h1, h2, hr, hc, hd, if_true, Int.reduceEq, zp, hlt', hdr]
  exact ⟨by omega, by omega⟩


/-- The files behind a deed. -/
def fdo (l : List Fl) (x : De) : List Fl := if canF l x = true then doF l x else l

def ctrFDone : Ctr := fun args objs K => match args with
  | [a0, a1] => ofE encFs a0 (HK.mk : HK fun l => ofE encX a1 (HK.mk : HK fun x => (RisF l) ∧ (l.length ≤ 999998) ∧ (bndF l) ∧ (okX x) ∧ K (.tup [encFs (fdo l x), .bool (canF l x)]) objs 0))
  | _ => False
theorem ctrFDone_ok : CtrOk Try.prog f_file_done (ctrFDone) := by
  intro args objs K h
  unfold ctrFDone at h
  split at h
  · rename_i a0 a1
    obtain ⟨l, rfl, x, rfl, h1, h2, h3, h4, hk⟩ := h
    exact ⟨_, _, _, .pure _ rfl (fdone_spec l x h1 h2 h3 h4), hk⟩
  · exact h.elim

end Lp

/-! LpW46 -/

namespace Lp
open Go Go.Proofs

set_option maxHeartbeats 4000000
set_option maxRecDepth 20000
set_option linter.unusedSimpArgs false

theorem lay_drp {l : List Fl} {f : Fl} (h : RisF l) : layF (drpF l f.name) f = layF l f := by
  induction l with
  | nil => rfl
  | cons a l ih =>
    have h2 := ih (ris_tail h)
    rcases bl_tri a.name f.name with h1 | h1 | h1
    · have hne : a.name ≠ f.name := fun e => by rw [e, bl_irrefl] at h1; cases h1
      have hd : drpF (a :: l) f.name = a :: drpF l f.name := by simp [drpF, hne]
      simp only [hd, layF, h1, if_true, h2]
    · have h3 : Op.bytesLess a.name f.name = false := by rw [h1, bl_irrefl]
      have hd : drpF (a :: l) f.name = l := by
        simp only [drpF, List.filter_cons, h1, decide_true, Bool.not_true, Bool.false_eq_true, if_false]
        rw [List.filter_eq_self]
        intro b hb
        have := has_gt h (s := f.name) (.inl h1.symm)
        rw [hasF, List.any_eq_false] at this
        simpa using this b hb
      have hgt := ris_gt h
      rw [hd]
      simp only [layF, h1, bl_irrefl, Bool.false_eq_true, if_false, if_true]
      cases l with
      | nil => rfl
      | cons b l =>
        have h5 := hgt b (by simp)
        rw [h1] at h5
        have h6 := bl_asymm _ _ h5
        have h7 : b.name ≠ f.name := fun e => by rw [e, bl_irrefl] at h5; cases h5
        simp [layF, h6, h7]
    · have h3 := bl_asymm _ _ h1
      have hne : a.name ≠ f.name := fun e => by rw [e, bl_irrefl] at h1; cases h1
      have hd : drpF (a :: l) f.name = a :: l := by
        rw [drpF, List.filter_eq_self]
        intro b hb
        have := has_gt h (s := f.name) (.inr h1)
        rcases List.mem_cons.1 hb with rfl | hb
        · simp [hne]
        · rw [hasF, List.any_eq_false] at this
          simpa using this b hb
      rw [hd]

theorem idx_pos {l : List Fl} {s : List UInt8} (hl : RisF l) (h : hasF l s = true) : idxF l s = (posF l s : Nat) := by
  obtain ⟨f, hf, hn⟩ := pos_lt hl h
  refine idxF_some hf hn fun j g hj hg => ?_
  intro e
  have := ris_lt hl hj hg hf
  rw [e, hn, bl_irrefl] at this; cases this

theorem idx_neg {l : List Fl} {s : List UInt8} (h : hasF l s = false) : idxF l s = -1 := by
  refine idxF_none fun j f hf => ?_
  rw [hasF, List.any_eq_false] at h
  simpa using h f (List.mem_of_getElem? hf)

theorem rdone_spec (l : List Fl) (x : De) (hl : RisF l) (hlen : l.length ≤ 999998) (hb : bndF l) (hx : okX x) :
    FnSpec Try.prog f_louperef23_done [encFs l, encX x] [] (encFs (doF l x)) [] := by
  refine k_louperef23_done.pureG (T := tabL Try.prog [(f_louperef23_Find, ctrFindR), (f_louperef23_needs, ctrNeeds), (f_louperef23_with, ctrWith), (f_louperef23_without, ctrWithout)]) 0 hD (kOk_tabL (tabOk_cons ctrFindR_ok (tabOk_cons ctrNeeds_ok (tabOk_cons ctrWith_ok (tabOk_cons ctrWithout_ok tabOk_nil))))) hmix (by decide) fun Q hQ => ?_
  try simp only [F_all]
  simp (maxSteps := 400000) only [↓preZ, postZ, coreZ, ↓preF, postF, D_all, F_all, unR, outL, onePV, binS, ↓binS, boundR, ↓boundR, fieldOf, ↓fieldOf, boxR, allocR, newObj, zeroElem, buildSliceR, appendR, setAll, storeR, St.freeze, makeSliceR, minmaxR, makeFuncR, BEq.rfl, reduceIte, reduceCtorEq, Nat.reduceLT, Nat.reduceAdd, Nat.reduceSub, Nat.reduceMul, Nat.reduceBEq, Nat.reduceLeDiff, Int.reduceToNat, Int.reduceLE, hQ, c_louperef23_done]
  refine wpc_weak _ (Weak.freeze 1 0 (Nat.zero_le _) _) ?_
  obtain ⟨k, nm, s⟩ := x
  have h0 : (l.length ≤ 4611686018427387904) = True := eq_true (by omega)
  have h1 : (l.length ≤ 1000000) = True := eq_true (by omega)
  have h2 : (l.length ≤ 999999) = True := eq_true (by omega)
  have hbs := hx.2
  simp only [] at hbs
  have hk0 : needsD ⟨k, nm, s⟩ = decide (k = 1 ∨ k = 2 ∨ k = 3) := rfl
  have hdl := drpF_length l nm
  have h3 : ((drpF l nm).length ≤ 999999) = True := eq_true (by omega)
  cases hh : hasF l nm
  · have hi := idx_neg hh
    by_cases hn : k = 1 ∨ k = 2 ∨ k = 3
    · have hn' : needsD ⟨k, nm, s⟩ = true := decide_eq_true hn
      have hd : doF l ⟨k, nm, s⟩ = l := by simp [doF, hn', hh]
      simp (maxSteps := 400000) only [↓preZ, postZ, coreZ, ↓preF, postF, D_all, F_all, unR, outL, onePV, binS, ↓binS, boundR, ↓boundR, fieldOf, ↓fieldOf, boxR, allocR, newObj, zeroElem, buildSliceR, appendR, setAll, storeR, St.freeze, makeSliceR, minmaxR, makeFuncR, BEq.rfl, reduceIte, reduceCtorEq, Nat.reduceLT, Nat.reduceAdd, Nat.reduceSub, Nat.reduceMul, Nat.reduceBEq, Nat.reduceLeDiff, Int.reduceToNat, Int.reduceLE, hQ, ↓ctrFindR, ↓ctrNeeds, h0, hi, hn', hd, Int.reduceLT]
    have hn' : needsD ⟨k, nm, s⟩ = false := decide_eq_false hn
    have k1 : (k = 1) = False := eq_false (by omega)
    have k2 : (k = 2) = False := eq_false (by omega)
    have k3 : (k = 3) = False := eq_false (by omega)
    by_cases k0 : k = 0
    · subst k0
      have hd : doF l ⟨0, nm, s⟩ = layF (drpF l nm) ⟨nm, []⟩ := by
        have := lay_drp (l := l) (f := ⟨nm, []⟩) hl
        simp only [] at this
        simp [doF, hn', this]
      simp (maxSteps := 400000) only [↓preZ, postZ, coreZ, ↓preF, postF, D_all, F_all, unR, outL, onePV, binS, ↓binS, boundR, ↓boundR, fieldOf, ↓fieldOf, boxR, allocR, newObj, zeroElem, buildSliceR, appendR, setAll, storeR, St.freeze, makeSliceR, minmaxR, makeFuncR, BEq.rfl, reduceIte, reduceCtorEq, Nat.reduceLT, Nat.reduceAdd, Nat.reduceSub, Nat.reduceMul, Nat.reduceBEq, Nat.reduceLeDiff, Int.reduceToNat, Int.reduceLE, hQ, ↓ctrFindR, ↓ctrNeeds, ↓ctrWith, h0, h2, hi, hn', hd]
    have k0' : (k = 0) = False := eq_false k0
    have hd : doF l ⟨k, nm, s⟩ = l := by simp [doF, hn', k0', k1, k2, k3]
    simp (maxSteps := 400000) only [↓preZ, postZ, coreZ, ↓preF, postF, D_all, F_all, unR, outL, onePV, binS, ↓binS, boundR, ↓boundR, fieldOf, ↓fieldOf, boxR, allocR, newObj, zeroElem, buildSliceR, appendR, setAll, storeR, St.freeze, makeSliceR, minmaxR, makeFuncR, BEq.rfl, reduceIte, reduceCtorEq, Nat.reduceLT, Nat.reduceAdd, Nat.reduceSub, Nat.reduceMul, Nat.reduceBEq, Nat.reduceLeDiff, Int.reduceToNat, Int.reduceLE, hQ, ↓ctrFindR, ↓ctrNeeds, h0, hi, hn', hd, k0', k1, k2, k3]
  have hi := idx_pos hl hh
  obtain ⟨f, hf, hfn⟩ := pos_lt hl hh
  have hg := get_at hl hf hfn
  have hbf := hb f (List.mem_of_getElem? hf)
  have zp : (0 ≤ ((posF l nm : Nat) : Int)) = True := eq_true (by omega)
  have zn : (((posF l nm : Nat) : Int) < 0) = False := eq_false (by omega)
  have cn : needsD ⟨k, nm, s⟩ = true ∨ needsD ⟨k, nm, s⟩ = false := by cases needsD ⟨k, nm, s⟩ <;> simp
  by_cases k0 : k = 0
  · subst k0
    have hn' : needsD ⟨0, nm, s⟩ = false := rfl
    have hd : doF l ⟨0, nm, s⟩ = layF (drpF l nm) ⟨nm, []⟩ := by
      have := lay_drp (l := l) (f := ⟨nm, []⟩) hl
      simp only [] at this
      simp [doF, hn', this]
    simp (maxSteps := 400000) only [↓preZ, postZ, coreZ, ↓preF, postF, D_all, F_all, unR, outL, onePV, binS, ↓binS, boundR, ↓boundR, fieldOf, ↓fieldOf, boxR, allocR, newObj, zeroElem, buildSliceR, appendR, setAll, storeR, St.freeze, makeSliceR, minmaxR, makeFuncR, BEq.rfl, reduceIte, reduceCtorEq, Nat.reduceLT, Nat.reduceAdd, Nat.reduceSub, Nat.reduceMul, Nat.reduceBEq, Nat.reduceLeDiff, Int.reduceToNat, Int.reduceLE, hQ, ↓ctrFindR, ↓ctrNeeds, ↓ctrWith, h0, h2, hi, hn', hd]
  have k0' : (k = 0) = False := eq_false k0
  by_cases k1 : k = 1
  · subst k1
    have hn' : needsD ⟨1, nm, s⟩ = true := rfl
    have hd : doF l ⟨1, nm, s⟩ = layF (drpF l nm) ⟨nm, f.s ++ s⟩ := by
      have := lay_drp (l := l) (f := ⟨nm, f.s ++ s⟩) hl
      simp only [] at this
      simp [doF, hn', this, hh, hg]
    simp (maxSteps := 400000) only [↓preZ, postZ, coreZ, ↓preF, postF, D_all, F_all, unR, outL, onePV, binS, ↓binS, boundR, ↓boundR, fieldOf, ↓fieldOf, boxR, allocR, newObj, zeroElem, buildSliceR, appendR, setAll, storeR, St.freeze, makeSliceR, minmaxR, makeFuncR, BEq.rfl, reduceIte, reduceCtorEq, Nat.reduceLT, Nat.reduceAdd, Nat.reduceSub, Nat.reduceMul, Nat.reduceBEq, Nat.reduceLeDiff, Int.reduceToNat, Int.reduceLE, hQ, ↓ctrFindR, ↓ctrNeeds, ↓ctrWith, h0, h2, hi, hn', hd, k0', zp, zn, hf, Int.reduceEq]
    omega
  have k1' : (k = 1) = False := eq_false k1
  by_cases k2 : k = 2
  · subst k2
    have hn' : needsD ⟨2, nm, s⟩ = true := rfl
    have hd : doF l ⟨2, nm, s⟩ = layF (drpF (drpF l nm) s) ⟨s, f.s⟩ := by
      have := lay_drp (l := drpF l nm) (f := ⟨s, f.s⟩) (ris_drp nm hl)
      simp only [] at this
      simp [doF, hn', this, hh, hg]
    simp (maxSteps := 400000) only [↓preZ, postZ, coreZ, ↓preF, postF, D_all, F_all, unR, outL, onePV, binS, ↓binS, boundR, ↓boundR, fieldOf, ↓fieldOf, boxR, allocR, newObj, zeroElem, buildSliceR, appendR, setAll, storeR, St.freeze, makeSliceR, minmaxR, makeFuncR, BEq.rfl, reduceIte, reduceCtorEq, Nat.reduceLT, Nat.reduceAdd, Nat.reduceSub, Nat.reduceMul, Nat.reduceBEq, Nat.reduceLeDiff, Int.reduceToNat, Int.reduceLE, hQ, ↓ctrFindR, ↓ctrNeeds, ↓ctrWith, ↓ctrWithout, h0, h1, h2, h3, hi, hn', hd, k0', zp, zn, hf, Int.reduceEq]
  have k2' : (k = 2) = False := eq_false k2
  by_cases k3 : k = 3
  · subst k3
    have hn' : needsD ⟨3, nm, s⟩ = true := rfl
    have hd : doF l ⟨3, nm, s⟩ = drpF l nm := by simp [doF, hh]
    simp (maxSteps := 400000) only [↓preZ, postZ, coreZ, ↓preF, postF, D_all, F_all, unR, outL, onePV, binS, ↓binS, boundR, ↓boundR, fieldOf, ↓fieldOf, boxR, allocR, newObj, zeroElem, buildSliceR, appendR, setAll, storeR, St.freeze, makeSliceR, minmaxR, makeFuncR, BEq.rfl, reduceIte, reduceCtorEq, Nat.reduceLT, Nat.reduceAdd, Nat.reduceSub, Nat.reduceMul, Nat.reduceBEq, Nat.reduceLeDiff, Int.reduceToNat, Int.reduceLE, hQ, ↓ctrFindR, ↓ctrNeeds, ↓ctrWithout, h0, h1, h2, hi, hn', hd, k0', zp, zn, hf, Int.reduceEq]
  have k3' : (k = 3) = False := eq_false k3
  have hn' : needsD ⟨k, nm, s⟩ = false := by simp [needsD, k1, k2, k3]
  have hd : doF l ⟨k, nm, s⟩ = l := by simp [doF, hn', k0', k1', k2', k3']
  simp (maxSteps := 400000) only [↓preZ, postZ, coreZ, ↓preF, postF, D_all, F_all, unR, outL, onePV, binS, ↓binS, boundR, ↓boundR, fieldOf, ↓fieldOf, boxR, allocR, newObj, zeroElem, buildSliceR, appendR, setAll, storeR, St.freeze, makeSliceR, minmaxR, makeFuncR, BEq.rfl, reduceIte, reduceCtorEq, Nat.reduceLT, Nat.reduceAdd, Nat.reduceSub, Nat.reduceMul, Nat.reduceBEq, Nat.reduceLeDiff, Int.reduceToNat, Int.reduceLE, hQ, ↓ctrFindR, ↓ctrNeeds, h0, hi, hn', hd, k0', k1', k2', k3']

def ctrRDone : Ctr := fun args objs K => match args with
  | [a0, a1] => ofE encFs a0 (HK.mk : HK fun l => ofE encX a1 (HK.mk : HK fun x => (RisF l) ∧ (l.length ≤ 999998) ∧ (bndF l) ∧ (okX x) ∧ K (encFs (doF l x)) objs 0))
  | _ => False
theorem ctrRDone_ok : CtrOk Try.prog f_louperef23_done (ctrRDone) := by
  intro args objs K h
  unfold ctrRDone at h
  split at h
  · rename_i a0 a1
    obtain ⟨l, rfl, x, rfl, h1, h2, h3, h4, hk⟩ := h
    exact ⟨_, _, _, .pure _ rfl (rdone_spec l x h1 h2 h3 h4), hk⟩
  · exact h.elim

end Lp

/-! LpW47 -/

namespace Lp
open Go Go.Proofs

set_option maxHeartbeats 4000000
set_option maxRecDepth 20000
set_option linter.unusedSimpArgs false

/-! ### Plain: how much there is -/

def masF (l : List Fl) : Nat := (l.map fun f => f.s.length).sum
def masX (d : List De) : Nat := (d.map fun x => x.s.length).sum

theorem mas_lay (l : List Fl) (f : Fl) : masF (layF l f) ≤ masF l + f.s.length := by
  induction l with
  | nil => simp [layF, masF]
  | cons a l ih =>
    simp only [layF]
    split
    · simp only [masF, List.map_cons, List.sum_cons] at *; omega
    · split <;> (simp only [masF, List.map_cons, List.sum_cons]; omega)

theorem mas_drp (l : List Fl) (s : List UInt8) : masF (drpF l s) ≤ masF l := by
  induction l with
  | nil => simp [drpF, masF]
  | cons a l ih =>
    simp only [drpF, List.filter_cons]
    split
    · simp only [masF, drpF, List.map_cons, List.sum_cons] at *; omega
    · simp only [masF, drpF, List.map_cons, List.sum_cons] at *; omega

theorem mas_get (l : List Fl) (s : List UInt8) : masF (drpF l s) + (getF l s).length ≤ masF l := by
  induction l with
  | nil => simp [drpF, masF, getF]
  | cons a l ih =>
    by_cases h : a.name = s
    · have h1 := mas_drp l s
      have hd : drpF (a :: l) s = drpF l s := by simp [drpF, h]
      have hg : getF (a :: l) s = a.s := by simp [getF, h]
      rw [hd, hg]
      simp only [masF, List.map_cons, List.sum_cons] at *; omega
    · have hd : drpF (a :: l) s = a :: drpF l s := by simp [drpF, h]
      have hg : getF (a :: l) s = getF l s := by simp [getF, h]
      rw [hd, hg]
      simp only [masF, List.map_cons, List.sum_cons] at *; omega

theorem mas_do {l : List Fl} (x : De) (h : RisF l) : masF (doF l x) ≤ masF l + x.s.length := by
  unfold doF
  have hg := mas_get l x.name
  split
  · omega
  · split
    · have := mas_lay l ⟨x.name, []⟩; simp at this; omega
    · split
      · rw [← lay_drp h]
        have := mas_lay (drpF l x.name) ⟨x.name, getF l x.name ++ x.s⟩
        simp at this ⊢; omega
      · split
        · have := mas_lay (drpF l x.name) ⟨x.s, getF l x.name⟩
          simp at this; omega
        · split
          · omega
          · omega

theorem ris_do {l : List Fl} (x : De) (h : RisF l) : RisF (doF l x) := by
  unfold doF
  split
  · exact h
  · split
    · exact ris_lay _ h
    · split
      · exact ris_lay _ h
      · split
        · exact ris_lay _ (ris_drp _ h)
        · split
          · exact ris_drp _ h
          · exact h

theorem do_length (l : List Fl) (x : De) : (doF l x).length ≤ l.length + 1 := by
  have h1 := drpF_length l x.name
  unfold doF
  split
  · omega
  · split
    · exact lay_length _ _
    · split
      · exact lay_length _ _
      · split
        · have := lay_length (drpF l x.name) ⟨x.s, getF l x.name⟩; omega
        · split <;> omega

theorem bnd_of_mas {l : List Fl} (h : masF l ≤ 4611686018427387903) : bndF l := by
  intro f hf
  have : f.s.length ≤ masF l := by
    clear h
    induction l with
    | nil => simp at hf
    | cons a l ih =>
      simp only [masF, List.map_cons, List.sum_cons]
      rcases List.mem_cons.1 hf with rfl | hf
      · omega
      · have := ih hf
        unfold masF at this; omega
  omega

theorem fdo_or (l : List Fl) (x : De) : fdo l x = doF l x ∨ fdo l x = l := by
  unfold fdo; split
  · exact .inl rfl
  · exact .inr rfl

/-- Deeds may be done of a disk. -/
structure OkC (l : List Fl) (d : List De) : Prop where
  ris : RisF l
  len : l.length + d.length ≤ 999998
  mas : masF l + masX d ≤ 4611686018427387903
  ok : ∀ x ∈ d, okX x

theorem OkC.step {l : List Fl} {x : De} {d : List De} (h : OkC l (x :: d)) {l' : List Fl} (hl : l' = doF l x ∨ l' = l) : OkC l' d := by
  obtain ⟨h1, h2, h3, h4⟩ := h
  have a1 := mas_do x h1
  have a2 := do_length l x
  simp only [masX, List.map_cons, List.sum_cons, List.length_cons] at h2 h3
  rcases hl with rfl | rfl
  · exact ⟨ris_do x h1, by omega, by unfold masX; omega, fun y hy => h4 y (by simp [hy])⟩
  · exact ⟨h1, by omega, by unfold masX; omega, fun y hy => h4 y (by simp [hy])⟩

theorem OkC.take {l : List Fl} {d : List De} (h : OkC l d) (n : Nat) : OkC l (d.take n) := by
  obtain ⟨h1, h2, h3, h4⟩ := h
  refine ⟨h1, by simp; omega, ?_, fun y hy => h4 y (List.mem_of_mem_take hy)⟩
  have : masX (d.take n) ≤ masX d := by
    have e : masX d = masX (d.take n) + masX (d.drop n) := by
      unfold masX
      rw [← List.sum_append, ← List.map_append, List.take_append_drop]
    omega
  omega

/-- A disk behind its first deeds, by the program and by the document. -/
def crF (k : Dk) (n : Nat) : Dk := ⟨(k.d.take n).foldl fdo k.l, []⟩
def crR (k : Dk) (n : Nat) : Dk := ⟨(k.d.take n).foldl doF k.l, []⟩

theorem OkC.at (f : List Fl → De → List Fl) (hf : ∀ l x, f l x = doF l x ∨ f l x = l) {l : List Fl} : ∀ {d : List De} {i : Nat}, OkC l d → i ≤ d.length → OkC ((d.take i).foldl f l) (d.drop i) := by
  intro d
  induction d generalizing l with
  | nil => intro i h hi; simp at hi; subst hi; exact h
  | cons x d ih =>
    intro i h hi
    cases i with
    | zero => exact h
    | succ i =>
      simp only [List.take_succ_cons, List.foldl_cons, List.drop_succ_cons]
      exact ih (h.step (hf l x)) (by simpa using hi)

/-! ### The walks -/

theorem tells_K0 (l : List Fl) : Tells (encK0 l) (encK ⟨l, []⟩) := tells2 (.inl rfl) (.refl _) (tells_nil 0 3)

theorem fcrash_spec (k : Dk) (n : Int) (hk : OkC k.l k.d) (hn : -9223372036854775808 ≤ n ∧ n ≤ 9223372036854775807) : FnSpec Try.prog f_file_Crash [encK k, .int .i64 n] [] (encK (crF k n.toNat)) [] := by
  refine FnSpec.res (r := encK0 (crF k n.toNat).l) ?_ (tells_K0 _)
  refine k_file_Crash.pureC (T := tabL Try.prog [(f_file_done, ctrFDone)]) 1 hD (kOk_tabL (tabOk_cons ctrFDone_ok tabOk_nil)) hmix (by decide) fun Q hQ => ?_
  try simp only [F_all]
  have m0 : (if (0 : Int) > n then 0 else n) = (n.toNat : Int) := by split <;> omega
  obtain ⟨c, hc, hcl, htk⟩ : ∃ c : Nat, (if (k.d.length : Int) < (n.toNat : Int) then (k.d.length : Int) else (n.toNat : Int)) = (c : Int) ∧ c ≤ k.d.length ∧ k.d.take n.toNat = k.d.take c := by
    by_cases h : k.d.length < n.toNat
    · exact ⟨k.d.length, by rw [if_pos (by omega)], Nat.le_refl _, by rw [List.take_of_length_le (by omega), List.take_length]⟩
    · exact ⟨n.toNat, by rw [if_neg (by omega)], by omega, rfl⟩
  have hcl' : ((c : Int) ≤ (k.d.length : Int)) = True := eq_true (by omega)
  have zc : (0 ≤ (c : Int)) = True := eq_true (by omega)
  have hres : (crF k n.toNat).l = (k.d.take c).foldl fdo k.l := by simp [crF, htk]
  have hlen : (k.d.take c).length = c := by simp; omega
  have hok := hk.take c
  have hL := hk.len
  generalize hdd : k.d.take c = dd at hres hlen hok
  simp (maxSteps := 400000) only [↓preZ, postZ, coreZ, ↓preF, postF, D_all, F_all, unR, outL, onePV, binS, ↓binS, boundR, ↓boundR, fieldOf, ↓fieldOf, boxR, allocR, newObj, zeroElem, buildSliceR, appendR, setAll, storeR, St.freeze, makeSliceR, minmaxR, makeFuncR, BEq.rfl, reduceIte, reduceCtorEq, Nat.reduceLT, Nat.reduceAdd, Nat.reduceSub, Nat.reduceMul, Nat.reduceBEq, Nat.reduceLeDiff, Int.reduceToNat, Int.reduceLE, hQ, c_file_Crash, m0, hc, hcl', zc, List.drop_zero, hdd, hlen]
  refine wpc_loop (fun m S => ∃ i : Nat, i + m = c ∧ S = ⟨tmA 33 [(4, .optr 1 1 0 0), (5, encFs ((dd.take i).foldl fdo k.l)), (18, encXs dd), (19, .int .i64 c), (20, .int .i64 i)],
    [⟨t_api_Disk, 2, [encK k], true, 1⟩, ⟨t_api_Disk, 2, [.agg [.sl 0 [] (some true), .sl 0 [] (some true)]], true, 1⟩]⟩) c ⟨0, by omega, ?_⟩ ?_ (hz := Nat.zero_le _)
  · simp only [normR, keepR, Nat.reduceAdd, lkR, Nat.reduceBEq, F_all, List.map_nil]
    rfl
  rintro m S ⟨i, him, rfl⟩
  have zi : (0 ≤ (i : Int)) = True := eq_true (by omega)
  rcases Nat.lt_or_ge i c with h | h
  · have hlt : ((i : Int) < (c : Int)) = True := eq_true (by omega)
    have ga : dd[i]? = some (dd[i]'(by omega)) := List.getElem?_eq_getElem (by omega)
    have hoi := hok.at fdo fdo_or (i := i) (by omega)
    have htk2 : (dd.take (i + 1)).foldl fdo k.l = fdo ((dd.take i).foldl fdo k.l) (dd[i]'(by omega)) := by
      rw [List.take_add_one, ga, Option.toList_some, List.foldl_append]; rfl
    have hox := hok.ok (dd[i]'(by omega)) (List.getElem_mem _)
    generalize dd[i]'(by omega) = x at ga htk2 hox
    generalize (dd.take i).foldl fdo k.l = li at hoi htk2
    have q1 := eq_true hoi.ris
    have q2 : (li.length ≤ 999998) = True := eq_true (by have := hoi.len; omega)
    have q3 := eq_true (bnd_of_mas (l := li) (by have := hoi.mas; omega))
    have q4 := eq_true hox
    simp (maxSteps := 400000) only [↓preZ, postZ, coreZ, ↓preF, postF, D_all, F_all, unR, outL, onePV, binS, ↓binS, boundR, ↓boundR, fieldOf, ↓fieldOf, boxR, allocR, newObj, zeroElem, buildSliceR, appendR, setAll, storeR, St.freeze, makeSliceR, minmaxR, makeFuncR, BEq.rfl, reduceIte, reduceCtorEq, Nat.reduceLT, Nat.reduceAdd, Nat.reduceSub, Nat.reduceMul, Nat.reduceBEq, Nat.reduceLeDiff, Int.reduceToNat, Int.reduceLE, hQ, hlt, zi, ga, ↓ctrFDone, q1, q2, q3, q4]
    refine ⟨⟨by omega, by omega⟩, m - 1, by omega, i + 1, by omega, ?_⟩
    rw [htk2]
    rfl
  have hlt : ((i : Int) < (c : Int)) = False := eq_false (by omega)
  rw [List.take_of_length_le (by omega)]
  simp (maxSteps := 400000) only [↓preZ, postZ, coreZ, ↓preF, postF, D_all, F_all, unR, outL, onePV, binS, ↓binS, boundR, ↓boundR, fieldOf, ↓fieldOf, boxR, allocR, newObj, zeroElem, buildSliceR, appendR, setAll, storeR, St.freeze, makeSliceR, minmaxR, makeFuncR, BEq.rfl, reduceIte, reduceCtorEq, Nat.reduceLT, Nat.reduceAdd, Nat.reduceSub, Nat.reduceMul, Nat.reduceBEq, Nat.reduceLeDiff, Int.reduceToNat, Int.reduceLE, hQ, hlt, hres]


def ctrFCrash : Ctr := fun args objs K => match args with
  | [a0, .int .i64 n] => ofE encK a0 (HK.mk : HK fun k => (OkC k.l k.d) ∧ (-9223372036854775808 ≤ n ∧ n ≤ 9223372036854775807) ∧ K (encK (crF k n.toNat)) objs 0)
  | _ => False
theorem ctrFCrash_ok : CtrOk Try.prog f_file_Crash (ctrFCrash) := by
  intro args objs K h
  unfold ctrFCrash at h
  split at h
  · rename_i a0 n
    obtain ⟨k, rfl, h1, h2, hk⟩ := h
    exact ⟨_, _, _, .pure _ rfl (fcrash_spec k n h1 h2), hk⟩
  · exact h.elim

theorem rcrash_spec (k : Dk) (n : Int) (hk : OkC k.l k.d) : FnSpec Try.prog f_louperef23_Crash [encK k, .int .i64 n] [] (encK (crR k n.toNat)) [] := by
  refine FnSpec.res (r := encK0 (crR k n.toNat).l) ?_ (tells_K0 _)
  refine k_louperef23_Crash.pureC (T := tabL Try.prog [(f_louperef23_done, ctrRDone)]) 1 hD (kOk_tabL (tabOk_cons ctrRDone_ok tabOk_nil)) hmix (by decide) fun Q hQ => ?_
  try simp only [F_all]
  have hL := hk.len
  simp (maxSteps := 400000) only [↓preZ, postZ, coreZ, ↓preF, postF, D_all, F_all, unR, outL, onePV, binS, ↓binS, boundR, ↓boundR, fieldOf, ↓fieldOf, boxR, allocR, newObj, zeroElem, buildSliceR, appendR, setAll, storeR, St.freeze, makeSliceR, minmaxR, makeFuncR, BEq.rfl, reduceIte, reduceCtorEq, Nat.reduceLT, Nat.reduceAdd, Nat.reduceSub, Nat.reduceMul, Nat.reduceBEq, Nat.reduceLeDiff, Int.reduceToNat, Int.reduceLE, hQ, c_louperef23_Crash]
  refine wpc_loop (fun m S => ∃ i : Nat, i + m = k.d.length ∧ (i : Int) ≤ (n.toNat : Int) ∧ S = ⟨tmA 30 [(1, .int .i64 n), (2, .optr 0 1 0 0), (4, .optr 1 1 0 0), (5, encFs ((k.d.take i).foldl doF k.l)), (6, .int .i64 i)],
    [⟨t_api_Disk, 2, [encK k], true, 1⟩, ⟨t_api_Disk, 2, [.agg [.sl 0 [] (some true), .sl 0 [] (some true)]], true, 1⟩]⟩) k.d.length ⟨0, by omega, by omega, ?_⟩ ?_
  · simp only [normR, keepR, Nat.reduceAdd, lkR, Nat.reduceBEq, F_all, List.map_nil]
    rfl
  rintro m S ⟨i, him, hin, rfl⟩
  have zi : (0 ≤ (i : Int)) = True := eq_true (by omega)
  rcases Nat.lt_or_ge i k.d.length with h | h
  rotate_left 1
  · have hlt : ((i : Int) < (k.d.length : Int)) = False := eq_false (by omega)
    have hres : (crR k n.toNat).l = (k.d.take i).foldl doF k.l := by
      simp only [crR]
      rw [List.take_of_length_le (by omega), List.take_of_length_le (by omega)]
    simp (maxSteps := 400000) only [↓preZ, postZ, coreZ, ↓preF, postF, D_all, F_all, unR, outL, onePV, binS, ↓binS, boundR, ↓boundR, fieldOf, ↓fieldOf, boxR, allocR, newObj, zeroElem, buildSliceR, appendR, setAll, storeR, St.freeze, makeSliceR, minmaxR, makeFuncR, BEq.rfl, reduceIte, reduceCtorEq, Nat.reduceLT, Nat.reduceAdd, Nat.reduceSub, Nat.reduceMul, Nat.reduceBEq, Nat.reduceLeDiff, Int.reduceToNat, Int.reduceLE, hQ, hlt, hres]
  have hlt : ((i : Int) < (k.d.length : Int)) = True := eq_true (by omega)
  by_cases hn : (i : Int) < n
  rotate_left 1
  · have hn' : ((i : Int) < n) = False := eq_false hn
    have hres : (crR k n.toNat).l = (k.d.take i).foldl doF k.l := by
      have : n.toNat = i := by omega
      simp only [crR, this]
    simp (maxSteps := 400000) only [↓preZ, postZ, coreZ, ↓preF, postF, D_all, F_all, unR, outL, onePV, binS, ↓binS, boundR, ↓boundR, fieldOf, ↓fieldOf, boxR, allocR, newObj, zeroElem, buildSliceR, appendR, setAll, storeR, St.freeze, makeSliceR, minmaxR, makeFuncR, BEq.rfl, reduceIte, reduceCtorEq, Nat.reduceLT, Nat.reduceAdd, Nat.reduceSub, Nat.reduceMul, Nat.reduceBEq, Nat.reduceLeDiff, Int.reduceToNat, Int.reduceLE, hQ, hlt, hn', hres]
  have hn' : ((i : Int) < n) = True := eq_true hn
  have ga : k.d[i]? = some (k.d[i]'h) := List.getElem?_eq_getElem h
  have hoi := hk.at doF (fun _ _ => .inl rfl) (i := i) (by omega)
  have htk2 : (k.d.take (i + 1)).foldl doF k.l = doF ((k.d.take i).foldl doF k.l) (k.d[i]'h) := by
    rw [List.take_add_one, ga, Option.toList_some, List.foldl_append]; rfl
  have hox := hk.ok (k.d[i]'h) (List.getElem_mem _)
  generalize k.d[i]'h = x at ga htk2 hox
  generalize (k.d.take i).foldl doF k.l = li at hoi htk2
  have q1 := eq_true hoi.ris
  have q2 : (li.length ≤ 999998) = True := eq_true (by have := hoi.len; omega)
  have q3 := eq_true (bnd_of_mas (l := li) (by have := hoi.mas; omega))
  have q4 := eq_true hox
  simp (maxSteps := 400000) only [↓preZ, postZ, coreZ, ↓preF, postF, D_all, F_all, unR, outL, onePV, binS, ↓binS, boundR, ↓boundR, fieldOf, ↓fieldOf, boxR, allocR, newObj, zeroElem, buildSliceR, appendR, setAll, storeR, St.freeze, makeSliceR, minmaxR, makeFuncR, BEq.rfl, reduceIte, reduceCtorEq, Nat.reduceLT, Nat.reduceAdd, Nat.reduceSub, Nat.reduceMul, Nat.reduceBEq, Nat.reduceLeDiff, Int.reduceToNat, Int.reduceLE, hQ, hlt, hn', zi, ga, ↓ctrRDone, q1, q2, q3, q4]
  refine ⟨⟨by omega, by omega⟩, m - 1, by omega, i + 1, by omega, by omega, ?_⟩
  rw [htk2]
  rfl

def ctrRCrash : Ctr := fun args objs K => match args with
  | [a0, .int .i64 n] => ofE encK a0 (HK.mk : HK fun k => (OkC k.l k.d) ∧ K (encK (crR k n.toNat)) objs 0)
  | _ => False
theorem ctrRCrash_ok : CtrOk Try.prog f_louperef23_Crash (ctrRCrash) := by
  intro args objs K h
  unfold ctrRCrash at h
  split at h
  · rename_i a0 n
    obtain ⟨k, rfl, h1, hk⟩ := h
    exact ⟨_, _, _, .pure _ rfl (rcrash_spec k n h1), hk⟩
  · exact h.elim

theorem seen_spec (k : Dk) (hk : OkC k.l k.d) : FnSpec Try.prog f_louperef23_Seen [encK k] [] (encFs (crR k k.d.length).l) [] := by
  refine k_louperef23_Seen.pureG (T := tabL Try.prog [(f_louperef23_Crash, ctrRCrash)]) 0 hD (kOk_tabL (tabOk_cons ctrRCrash_ok tabOk_nil)) hmix (by decide) fun Q hQ => ?_
  try simp only [F_all]
  simp (maxSteps := 400000) only [↓preZ, postZ, coreZ, ↓preF, postF, D_all, F_all, unR, outL, onePV, binS, ↓binS, boundR, ↓boundR, fieldOf, ↓fieldOf, boxR, allocR, newObj, zeroElem, buildSliceR, appendR, setAll, storeR, St.freeze, makeSliceR, minmaxR, makeFuncR, BEq.rfl, reduceIte, reduceCtorEq, Nat.reduceLT, Nat.reduceAdd, Nat.reduceSub, Nat.reduceMul, Nat.reduceBEq, Nat.reduceLeDiff, Int.reduceToNat, Int.reduceLE, hQ, c_louperef23_Seen]
  refine wpc_weak _ (Weak.freeze 1 0 (Nat.zero_le _) _) ?_
  have h1 := eq_true hk
  simp (maxSteps := 400000) only [↓preZ, postZ, coreZ, ↓preF, postF, D_all, F_all, unR, outL, onePV, binS, ↓binS, boundR, ↓boundR, fieldOf, ↓fieldOf, boxR, allocR, newObj, zeroElem, buildSliceR, appendR, setAll, storeR, St.freeze, makeSliceR, minmaxR, makeFuncR, BEq.rfl, reduceIte, reduceCtorEq, Nat.reduceLT, Nat.reduceAdd, Nat.reduceSub, Nat.reduceMul, Nat.reduceBEq, Nat.reduceLeDiff, Int.reduceToNat, Int.reduceLE, hQ, ↓ctrRCrash, h1, Int.toNat_natCast]

def ctrSeen : Ctr := fun args objs K => match args with
  | [a0] => ofE encK a0 (HK.mk : HK fun k => (OkC k.l k.d) ∧ K (encFs (crR k k.d.length).l) objs 0)
  | _ => False
theorem ctrSeen_ok : CtrOk Try.prog f_louperef23_Seen (ctrSeen) := by
  intro args objs K h
  unfold ctrSeen at h
  split at h
  · rename_i a0
    obtain ⟨k, rfl, h1, hk⟩ := h
    exact ⟨_, _, _, .pure _ rfl (seen_spec k h1), hk⟩
  · exact h.elim

theorem OkC.end (f : List Fl → De → List Fl) (hf : ∀ l x, f l x = doF l x ∨ f l x = l) {l : List Fl} {d : List De} (h : OkC l d) : OkC (d.foldl f l) [] := by
  have := h.at f hf (i := d.length) (Nat.le_refl _)
  simpa using this

theorem rsee_spec (k : Dk) (s : List UInt8) (hk : OkC k.l k.d) : FnSpec Try.prog f_louperef23_See [encK k, .str s] [] (.tup [.str (if hasF (crR k k.d.length).l s = true then getF (crR k k.d.length).l s else []), .bool (hasF (crR k k.d.length).l s)]) [] := by
  refine k_louperef23_See.pureG2 (T := tabL Try.prog [(f_louperef23_Seen, ctrSeen), (f_louperef23_Find, ctrFindR)]) 0 hD (kOk_tabL (tabOk_cons ctrSeen_ok (tabOk_cons ctrFindR_ok tabOk_nil))) hmix (by decide) (by decide) fun Q hQ => ?_
  try simp only [F_all]
  simp (maxSteps := 400000) only [↓preZ, postZ, coreZ, ↓preF, postF, D_all, F_all, unR, outL, onePV, binS, ↓binS, boundR, ↓boundR, fieldOf, ↓fieldOf, boxR, allocR, newObj, zeroElem, buildSliceR, appendR, setAll, storeR, St.freeze, makeSliceR, minmaxR, makeFuncR, BEq.rfl, reduceIte, reduceCtorEq, Nat.reduceLT, Nat.reduceAdd, Nat.reduceSub, Nat.reduceMul, Nat.reduceBEq, Nat.reduceLeDiff, Int.reduceToNat, Int.reduceLE, hQ, c_louperef23_See]
  refine wpc_weak _ (Weak.freeze 1 0 (Nat.zero_le _) _) ?_
  have h1 := eq_true hk
  have he : OkC (crR k k.d.length).l [] := by
    have := hk.end doF (fun _ _ => .inl rfl)
    simpa [crR] using this
  generalize hcl : (crR k k.d.length).l = l at he
  have hl := he.ris
  have h2 : (l.length ≤ 4611686018427387904) = True := eq_true (by have := he.len; omega)
  cases hh : hasF l s
  · have hi := idx_neg hh
    simp (maxSteps := 400000) only [↓preZ, postZ, coreZ, ↓preF, postF, D_all, F_all, unR, outL, onePV, binS, ↓binS, boundR, ↓boundR, fieldOf, ↓fieldOf, boxR, allocR, newObj, zeroElem, buildSliceR, appendR, setAll, storeR, St.freeze, makeSliceR, minmaxR, makeFuncR, BEq.rfl, reduceIte, reduceCtorEq, Nat.reduceLT, Nat.reduceAdd, Nat.reduceSub, Nat.reduceMul, Nat.reduceBEq, Nat.reduceLeDiff, Int.reduceToNat, Int.reduceLE, hQ, ↓ctrSeen, ↓ctrFindR, h1, h2, hi, hh, hcl, Int.reduceLT, if_false]
  · have hi := idx_pos hl hh
    obtain ⟨f, hf, hfn⟩ := pos_lt hl hh
    have hg := get_at hl hf hfn
    have zp : (0 ≤ ((posF l s : Nat) : Int)) = True := eq_true (by omega)
    have zn : (((posF l s : Nat) : Int) < 0) = False := eq_false (by omega)
    simp (maxSteps := 400000) only [↓preZ, postZ, coreZ, ↓preF, postF, D_all, F_all, unR, outL, onePV, binS, ↓binS, boundR, ↓boundR, fieldOf, ↓fieldOf, boxR, allocR, newObj, zeroElem, buildSliceR, appendR, setAll, storeR, St.freeze, makeSliceR, minmaxR, makeFuncR, BEq.rfl, reduceIte, reduceCtorEq, Nat.reduceLT, Nat.reduceAdd, Nat.reduceSub, Nat.reduceMul, Nat.reduceBEq, Nat.reduceLeDiff, Int.reduceToNat, Int.reduceLE, hQ, ↓ctrSeen, ↓ctrFindR, h1, h2, hi, hh, hcl, zp, zn, hf, hg, if_true]

def ctrRSee : Ctr := fun args objs K => match args with
  | [a0, .str s] => ofE encK a0 (HK.mk : HK fun k => (OkC k.l k.d) ∧ K (.tup [.str (if hasF (crR k k.d.length).l s = true then getF (crR k k.d.length).l s else []), .bool (hasF (crR k k.d.length).l s)]) objs 0)
  | _ => False
theorem ctrRSee_ok : CtrOk Try.prog f_louperef23_See (ctrRSee) := by
  intro args objs K h
  unfold ctrRSee at h
  split at h
  · rename_i a0 s
    obtain ⟨k, rfl, h1, hk⟩ := h
    exact ⟨_, _, _, .pure _ rfl (rsee_spec k s h1), hk⟩
  · exact h.elim

theorem fsee_spec (k : Dk) (s : List UInt8) (hk : OkC k.l k.d) : FnSpec Try.prog f_file_See [encK k, .str s] [] (.tup [.str (if hasF (crF k k.d.length).l s = true then getF (crF k k.d.length).l s else []), .bool (hasF (crF k k.d.length).l s)]) [] := by
  refine k_file_See.pureG2 (T := tabL Try.prog [(f_file_Crash, ctrFCrash), (f_file_find, ctrFind)]) 0 hD (kOk_tabL (tabOk_cons ctrFCrash_ok (tabOk_cons ctrFind_ok tabOk_nil))) hmix (by decide) (by decide) fun Q hQ => ?_
  try simp only [F_all]
  simp (maxSteps := 400000) only [↓preZ, postZ, coreZ, ↓preF, postF, D_all, F_all, unR, outL, onePV, binS, ↓binS, boundR, ↓boundR, fieldOf, ↓fieldOf, boxR, allocR, newObj, zeroElem, buildSliceR, appendR, setAll, storeR, St.freeze, makeSliceR, minmaxR, makeFuncR, BEq.rfl, reduceIte, reduceCtorEq, Nat.reduceLT, Nat.reduceAdd, Nat.reduceSub, Nat.reduceMul, Nat.reduceBEq, Nat.reduceLeDiff, Int.reduceToNat, Int.reduceLE, hQ, c_file_See]
  refine wpc_weak _ (Weak.freeze 1 0 (Nat.zero_le _) _) ?_
  have h1 := eq_true hk
  have hL := hk.len
  have h0 : (-9223372036854775808 ≤ (k.d.length : Int) ∧ (k.d.length : Int) ≤ 9223372036854775807) = True := eq_true ⟨by omega, by omega⟩
  have he : OkC (crF k k.d.length).l [] := by
    have := hk.end fdo fdo_or
    simpa [crF] using this
  generalize hcl : (crF k k.d.length).l = l at he
  have hl := he.ris
  have hr := eq_true hl
  have h2 : (l.length ≤ 1000000) = True := eq_true (by have := he.len; omega)
  cases hh : hasF l s
  · simp (maxSteps := 400000) only [↓preZ, postZ, coreZ, ↓preF, postF, D_all, F_all, unR, outL, onePV, binS, ↓binS, boundR, ↓boundR, fieldOf, ↓fieldOf, boxR, allocR, newObj, zeroElem, buildSliceR, appendR, setAll, storeR, St.freeze, makeSliceR, minmaxR, makeFuncR, BEq.rfl, reduceIte, reduceCtorEq, Nat.reduceLT, Nat.reduceAdd, Nat.reduceSub, Nat.reduceMul, Nat.reduceBEq, Nat.reduceLeDiff, Int.reduceToNat, Int.reduceLE, hQ, ↓ctrFCrash, ↓ctrFind, slF_r, h0, h1, h2, hr, hh, hcl, Int.toNat_natCast, if_false]
  · obtain ⟨f, hf, hfn⟩ := pos_lt hl hh
    have hg := get_at hl hf hfn
    have zp : (0 ≤ ((posF l s : Nat) : Int)) = True := eq_true (by omega)
    simp (maxSteps := 400000) only [↓preZ, postZ, coreZ, ↓preF, postF, D_all, F_all, unR, outL, onePV, binS, ↓binS, boundR, ↓boundR, fieldOf, ↓fieldOf, boxR, allocR, newObj, zeroElem, buildSliceR, appendR, setAll, storeR, St.freeze, makeSliceR, minmaxR, makeFuncR, BEq.rfl, reduceIte, reduceCtorEq, Nat.reduceLT, Nat.reduceAdd, Nat.reduceSub, Nat.reduceMul, Nat.reduceBEq, Nat.reduceLeDiff, Int.reduceToNat, Int.reduceLE, hQ, ↓ctrFCrash, ↓ctrFind, slF_r, h0, h1, h2, hr, hh, hcl, Int.toNat_natCast, zp, hf, hg, if_true]

def ctrFSee : Ctr := fun args objs K => match args with
  | [a0, .str s] => ofE encK a0 (HK.mk : HK fun k => (OkC k.l k.d) ∧ K (.tup [.str (if hasF (crF k k.d.length).l s = true then getF (crF k k.d.length).l s else []), .bool (hasF (crF k k.d.length).l s)]) objs 0)
  | _ => False
theorem ctrFSee_ok : CtrOk Try.prog f_file_See (ctrFSee) := by
  intro args objs K h
  unfold ctrFSee at h
  split at h
  · rename_i a0 s
    obtain ⟨k, rfl, h1, hk⟩ := h
    exact ⟨_, _, _, .pure _ rfl (fsee_spec k s h1), hk⟩
  · exact h.elim

end Lp

/-! LpW48 -/

namespace Lp
open Go Go.Proofs

set_option maxHeartbeats 4000000
set_option maxRecDepth 20000
set_option linter.unusedSimpArgs false

/-! ### Plain -/

/-- Names that may be, and rise. -/
def nmF : List Fl → Bool
  | a :: b :: l => nameOk a.name && Op.bytesLess a.name b.name && nmF (b :: l)
  | [a] => nameOk a.name
  | [] => true

theorem nmF_iff : ∀ l : List Fl, nmF l = true ↔ (∀ (j : Nat) (f : Fl), l[j]? = some f → nameOk f.name = true) ∧ ∀ (j : Nat) (a b : Fl), l[j]? = some a → l[j + 1]? = some b → Op.bytesLess a.name b.name = true
  | [] => by simp [nmF]
  | [a] => by
    simp only [nmF]
    constructor
    · intro h
      refine ⟨fun j f hf => ?_, fun j x y _ hy => by simp at hy⟩
      cases j with
      | zero => cases hf; exact h
      | succ j => simp at hf
    · intro h; exact h.1 0 a rfl
  | a :: b :: l => by
    rw [nmF, Bool.and_eq_true, Bool.and_eq_true, nmF_iff (b :: l)]
    constructor
    · rintro ⟨⟨h1, h2⟩, h3, h4⟩
      refine ⟨fun j f hf => ?_, fun j x y hx hy => ?_⟩
      · cases j with
        | zero => cases hf; exact h1
        | succ j => exact h3 j f (by simpa using hf)
      · cases j with
        | zero => cases hx; simp only [List.getElem?_cons_succ, List.getElem?_cons_zero, Option.some.injEq] at hy; subst hy; exact h2
        | succ j => exact h4 j x y (by simpa using hx) (by simpa using hy)
    · rintro ⟨h1, h2⟩
      exact ⟨⟨h1 0 a rfl, h2 0 a b rfl rfl⟩, fun j f hf => h1 (j + 1) f (by simpa using hf), fun j x y hx hy => h2 (j + 1) x y (by simpa using hx) (by simpa using hy)⟩

theorem nm_no {l : List Fl} (h : ¬ (nmF l = true)) : nmF l = false := by cases h' : nmF l with
  | false => rfl
  | true => exact absurd h' h

theorem nm_ris : ∀ {l : List Fl}, nmF l = true → RisF l
  | [], _ => trivial
  | [_], _ => trivial
  | a :: b :: l, h => by
    rw [nmF, Bool.and_eq_true, Bool.and_eq_true] at h
    exact ⟨h.1.2, nm_ris h.2⟩

/-- Deeds that may be done, one behind the other. -/
def dsF : List Fl → List De → Bool
  | l, x :: d => canF l x && dsF (doF l x) d
  | _, [] => true

theorem dsF_iff : ∀ (d : List De) (l : List Fl), dsF l d = true ↔ ∀ (i : Nat) (x : De), d[i]? = some x → canF ((d.take i).foldl doF l) x = true
  | [], l => by simp [dsF]
  | x :: d, l => by
    rw [dsF, Bool.and_eq_true, dsF_iff d]
    constructor
    · rintro ⟨h1, h2⟩ i y hy
      cases i with
      | zero => cases hy; exact h1
      | succ i => exact h2 i y (by simpa using hy)
    · intro h
      exact ⟨h 0 x rfl, fun i y hy => h (i + 1) y (by simpa using hy)⟩

theorem ds_no {l : List Fl} {d : List De} {i : Nat} {x : De} (h : d[i]? = some x) (hc : canF ((d.take i).foldl doF l) x = false) : dsF l d = false := by
  cases h' : dsF l d with
  | false => rfl
  | true => rw [(dsF_iff d l).1 h' i x h] at hc; cases hc

def rightK (k : Dk) : Bool := nmF k.l && dsF k.l k.d

/-- Sizes of a disk. -/
structure OkS (k : Dk) : Prop where
  len : k.l.length + k.d.length ≤ 999998
  mas : masF k.l + masX k.d ≤ 4611686018427387903
  ok : ∀ x ∈ k.d, okX x
  nm : ∀ f ∈ k.l, f.name.length ≤ 4611686018427387904

theorem OkS.okC {k : Dk} (h : OkS k) (hr : RisF k.l) : OkC k.l k.d := ⟨hr, h.len, h.mas, h.ok⟩

/-! ### The walks -/

theorem rright_spec (k : Dk) (hk : OkS k) : FnSpec Try.prog f_louperef23_Right [encK k] [] (.bool (rightK k)) [] := by
  refine k_louperef23_Right.pureG (T := tabL Try.prog [(f_louperef23_name, ctrNameR), (f_louperef23_See, ctrRSee), (f_louperef23_may, ctrMayR), (f_louperef23_needs, ctrNeeds)]) 0 hD (kOk_tabL (tabOk_cons ctrNameR_ok (tabOk_cons ctrRSee_ok (tabOk_cons ctrMayR_ok (tabOk_cons ctrNeeds_ok tabOk_nil))))) hmix (by decide) fun Q hQ => ?_
  try simp only [F_all]
  simp (maxSteps := 400000) only [↓preZ, postZ, coreZ, ↓preF, postF, D_all, F_all, unR, outL, onePV, binS, ↓binS, boundR, ↓boundR, fieldOf, ↓fieldOf, boxR, allocR, newObj, zeroElem, buildSliceR, appendR, setAll, storeR, St.freeze, makeSliceR, minmaxR, makeFuncR, BEq.rfl, reduceIte, reduceCtorEq, Nat.reduceLT, Nat.reduceAdd, Nat.reduceSub, Nat.reduceMul, Nat.reduceBEq, Nat.reduceLeDiff, Int.reduceToNat, Int.reduceLE, hQ, c_louperef23_Right]
  refine wpc_weak _ (Weak.freeze 1 0 (Nat.zero_le _) _) ?_
  obtain ⟨l, d⟩ := k
  have hL := hk.len
  have hN := hk.nm
  have hO := hk.ok
  simp only [] at hL hN hO
  have hres : rightK ⟨l, d⟩ = (nmF l && dsF l d) := rfl
  simp (maxSteps := 400000) only [↓preZ, postZ, coreZ, ↓preF, postF, D_all, F_all, unR, outL, onePV, binS, ↓binS, boundR, ↓boundR, fieldOf, ↓fieldOf, boxR, allocR, newObj, zeroElem, buildSliceR, appendR, setAll, storeR, St.freeze, makeSliceR, minmaxR, makeFuncR, BEq.rfl, reduceIte, reduceCtorEq, Nat.reduceLT, Nat.reduceAdd, Nat.reduceSub, Nat.reduceMul, Nat.reduceBEq, Nat.reduceLeDiff, Int.reduceToNat, Int.reduceLE, hQ]
  refine wpc_loop (fun m S => ∃ i : Nat, i + m = l.length ∧ (∀ (j : Nat) (f : Fl), j < i → l[j]? = some f → nameOk f.name = true) ∧ (∀ (j : Nat) (a b : Fl), j + 1 < i → l[j]? = some a → l[j + 1]? = some b → Op.bytesLess a.name b.name = true) ∧
    S = ⟨tmA 81 [(1, .addr (encK ⟨l, d⟩)), (3, .int .i64 i)], []⟩) l.length ⟨0, by omega, fun j f h => absurd h (by omega), fun j a b h => absurd h (by omega), ?_⟩ ?_
  · simp only [normR, keepR, Nat.reduceAdd, lkR, Nat.reduceBEq, F_all, List.map_nil]
    rfl
  rintro m S ⟨i, him, hj1, hj2, rfl⟩
  have zi : (0 ≤ (i : Int)) = True := eq_true (by omega)
  rcases Nat.lt_or_ge i l.length with h | h
  · have hlt : ((i : Int) < (l.length : Int)) = True := eq_true (by omega)
    have ga := List.getElem?_eq_getElem h
    have hsx := eq_true (hN l[i] (List.getElem_mem h))
    generalize l[i] = x at ga hsx
    cases hn : nameOk x.name
    · have hr : rightK ⟨l, d⟩ = false := by rw [hres, nm_no fun h => by rw [((nmF_iff l).1 h).1 i x ga] at hn; cases hn]; rfl
      simp (maxSteps := 400000) only [↓preZ, postZ, coreZ, ↓preF, postF, D_all, F_all, unR, outL, onePV, binS, ↓binS, boundR, ↓boundR, fieldOf, ↓fieldOf, boxR, allocR, newObj, zeroElem, buildSliceR, appendR, setAll, storeR, St.freeze, makeSliceR, minmaxR, makeFuncR, BEq.rfl, reduceIte, reduceCtorEq, Nat.reduceLT, Nat.reduceAdd, Nat.reduceSub, Nat.reduceMul, Nat.reduceBEq, Nat.reduceLeDiff, Int.reduceToNat, Int.reduceLE, hQ, ↓ctrNameR, hlt, zi, ga, hsx, hn, hr]
    rcases Nat.eq_zero_or_pos i with h0 | h0
    · have z0 : (0 < (i : Int)) = False := eq_false (by omega)
      simp (maxSteps := 400000) only [↓preZ, postZ, coreZ, ↓preF, postF, D_all, F_all, unR, outL, onePV, binS, ↓binS, boundR, ↓boundR, fieldOf, ↓fieldOf, boxR, allocR, newObj, zeroElem, buildSliceR, appendR, setAll, storeR, St.freeze, makeSliceR, minmaxR, makeFuncR, BEq.rfl, reduceIte, reduceCtorEq, Nat.reduceLT, Nat.reduceAdd, Nat.reduceSub, Nat.reduceMul, Nat.reduceBEq, Nat.reduceLeDiff, Int.reduceToNat, Int.reduceLE, hQ, ↓ctrNameR, hlt, zi, ga, hsx, hn, z0]
      refine ⟨⟨by omega, by omega⟩, m - 1, by omega, i + 1, by omega, ?_, fun j a b h => absurd h (by omega), rfl⟩
      intro j f hji hf
      have : j = i := by omega
      subst this
      rw [ga] at hf; cases hf; exact hn
    have z0 : (0 < (i : Int)) = True := eq_true (by omega)
    have z1 : (0 ≤ (i : Int) - 1) = True := eq_true (by omega)
    have t1 : ((i : Int) - 1).toNat = i - 1 := by omega
    have gb : l[i - 1]? = some (l[i - 1]'(by omega)) := List.getElem?_eq_getElem (by omega)
    generalize l[i - 1]'(by omega) = y at gb
    cases hb : Op.bytesLess y.name x.name
    · have hr : rightK ⟨l, d⟩ = false := by
        rw [hres, nm_no fun h => by
          have := ((nmF_iff l).1 h).2 (i - 1) y x gb (by rw [show i - 1 + 1 = i by omega]; exact ga)
          rw [hb] at this; cases this]
        rfl
      simp (maxSteps := 400000) only [↓preZ, postZ, coreZ, ↓preF, postF, D_all, F_all, unR, outL, onePV, binS, ↓binS, boundR, ↓boundR, fieldOf, ↓fieldOf, boxR, allocR, newObj, zeroElem, buildSliceR, appendR, setAll, storeR, St.freeze, makeSliceR, minmaxR, makeFuncR, BEq.rfl, reduceIte, reduceCtorEq, Nat.reduceLT, Nat.reduceAdd, Nat.reduceSub, Nat.reduceMul, Nat.reduceBEq, Nat.reduceLeDiff, Int.reduceToNat, Int.reduceLE, hQ, ↓ctrNameR, hlt, zi, ga, hsx, hn, z0, z1, t1, gb, hb, hr]
      omega
    · simp (maxSteps := 400000) only [↓preZ, postZ, coreZ, ↓preF, postF, D_all, F_all, unR, outL, onePV, binS, ↓binS, boundR, ↓boundR, fieldOf, ↓fieldOf, boxR, allocR, newObj, zeroElem, buildSliceR, appendR, setAll, storeR, St.freeze, makeSliceR, minmaxR, makeFuncR, BEq.rfl, reduceIte, reduceCtorEq, Nat.reduceLT, Nat.reduceAdd, Nat.reduceSub, Nat.reduceMul, Nat.reduceBEq, Nat.reduceLeDiff, Int.reduceToNat, Int.reduceLE, hQ, ↓ctrNameR, hlt, zi, ga, hsx, hn, z0, z1, t1, gb, hb]
      refine ⟨by omega, ⟨by omega, by omega⟩, m - 1, by omega, i + 1, by omega, ?_, ?_, rfl⟩
      · intro j f hji hf
        by_cases hjj : j = i
        · subst hjj; rw [ga] at hf; cases hf; exact hn
        · exact hj1 j f (by omega) hf
      · intro j a b hji ha hb'
        by_cases hjj : j = i - 1
        · subst hjj
          rw [show i - 1 + 1 = i by omega] at hb'
          rw [gb] at ha; rw [ga] at hb'
          cases ha; cases hb'; exact hb
        · exact hj2 j a b (by omega) ha hb'
  have hlt : ((i : Int) < (l.length : Int)) = False := eq_false (by omega)
  have hnm : nmF l = true := (nmF_iff l).2 ⟨fun j f hf => hj1 j f (by have := (List.getElem?_eq_some_iff.1 hf).1; omega) hf, fun j a b ha hb => hj2 j a b (by have := (List.getElem?_eq_some_iff.1 hb).1; omega) ha hb⟩
  have hris := nm_ris hnm
  have hC := hk.okC hris
  simp only [] at hC
  rw [hnm, Bool.true_and] at hres
  simp (maxSteps := 400000) only [↓preZ, postZ, coreZ, ↓preF, postF, D_all, F_all, unR, outL, onePV, binS, ↓binS, boundR, ↓boundR, fieldOf, ↓fieldOf, boxR, allocR, newObj, zeroElem, buildSliceR, appendR, setAll, storeR, St.freeze, makeSliceR, minmaxR, makeFuncR, BEq.rfl, reduceIte, reduceCtorEq, Nat.reduceLT, Nat.reduceAdd, Nat.reduceSub, Nat.reduceMul, Nat.reduceBEq, Nat.reduceLeDiff, Int.reduceToNat, Int.reduceLE, hQ, hlt]
  clear hj1 hj2 hlt h him zi
  refine wpc_loop (fun m S => ∃ i : Nat, i + m = d.length ∧ (∀ (j : Nat) (x : De), j < i → d[j]? = some x → canF ((d.take j).foldl doF l) x = true) ∧
    S = ⟨tmA 81 [(1, .addr (encK ⟨l, d⟩)), (4, .int .i64 i)], []⟩) d.length ⟨0, by omega, fun j x h => absurd h (by omega), ?_⟩ ?_ (hz := Nat.zero_le _)
  · simp only [normR, keepR, Nat.reduceAdd, lkR, Nat.reduceBEq, F_all, List.map_nil]
    rfl
  rintro m S ⟨i, him, hj, rfl⟩
  have zi : (0 ≤ (i : Int)) = True := eq_true (by omega)
  rcases Nat.lt_or_ge i d.length with h | h
  · have hlt : ((i : Int) < (d.length : Int)) = True := eq_true (by omega)
    have hle : ((i : Int) ≤ (d.length : Int)) = True := eq_true (by omega)
    have ga := List.getElem?_eq_getElem h
    have hxo := eq_true (hO d[i] (List.getElem_mem h))
    generalize d[i] = x at ga hxo
    have hCi := eq_true (hC.take i)
    have hcr : (crR ⟨l, d.take i⟩ (d.take i).length).l = (d.take i).foldl doF l := by
      show ((d.take i).take (d.take i).length).foldl doF l = _
      rw [List.take_length]
    have htl : (d.take i).length = i := by simp; omega
    rw [htl] at hcr
    have hno : ∀ c, canF ((d.take i).foldl doF l) x = c → c = false → rightK ⟨l, d⟩ = false := fun c hc h => by rw [hres]; exact ds_no ga (by rw [hc, h])
    have hyes : canF ((d.take i).foldl doF l) x = true → ∀ (j : Nat) (y : De), j < i + 1 → d[j]? = some y → canF ((d.take j).foldl doF l) y = true := by
      intro hc j y hji hy
      by_cases hjj : j = i
      · subst hjj; rw [ga] at hy; cases hy; exact hc
      · exact hj j y (by omega) hy
    generalize (d.take i).foldl doF l = li at hcr hno hyes
    cases hm : mayD x
    · have hr := hno _ rfl (by simp [canF, hm])
      simp (maxSteps := 400000) only [↓preZ, postZ, coreZ, ↓preF, postF, D_all, F_all, unR, outL, onePV, binS, ↓binS, boundR, ↓boundR, fieldOf, ↓fieldOf, boxR, allocR, newObj, zeroElem, buildSliceR, appendR, setAll, storeR, St.freeze, makeSliceR, minmaxR, makeFuncR, BEq.rfl, reduceIte, reduceCtorEq, Nat.reduceLT, Nat.reduceAdd, Nat.reduceSub, Nat.reduceMul, Nat.reduceBEq, Nat.reduceLeDiff, Int.reduceToNat, Int.reduceLE, hQ, ↓ctrRSee, ↓ctrMayR, hlt, hle, zi, ga, hxo, hCi, htl, hcr, hm, hr, List.drop_zero]
      decide
    cases hn : needsD x
    · have hy := hyes (by simp [canF, hm, hn])
      simp (maxSteps := 400000) only [↓preZ, postZ, coreZ, ↓preF, postF, D_all, F_all, unR, outL, onePV, binS, ↓binS, boundR, ↓boundR, fieldOf, ↓fieldOf, boxR, allocR, newObj, zeroElem, buildSliceR, appendR, setAll, storeR, St.freeze, makeSliceR, minmaxR, makeFuncR, BEq.rfl, reduceIte, reduceCtorEq, Nat.reduceLT, Nat.reduceAdd, Nat.reduceSub, Nat.reduceMul, Nat.reduceBEq, Nat.reduceLeDiff, Int.reduceToNat, Int.reduceLE, hQ, ↓ctrRSee, ↓ctrMayR, ↓ctrNeeds, hlt, hle, zi, ga, hxo, hCi, htl, hcr, hm, hn, List.drop_zero]
      exact ⟨by decide, ⟨by omega, by omega⟩, m - 1, by omega, i + 1, by omega, hy, rfl⟩
    cases hh : hasF li x.name
    · have hr := hno _ rfl (by simp [canF, hn, hh])
      simp (maxSteps := 400000) only [↓preZ, postZ, coreZ, ↓preF, postF, D_all, F_all, unR, outL, onePV, binS, ↓binS, boundR, ↓boundR, fieldOf, ↓fieldOf, boxR, allocR, newObj, zeroElem, buildSliceR, appendR, setAll, storeR, St.freeze, makeSliceR, minmaxR, makeFuncR, BEq.rfl, reduceIte, reduceCtorEq, Nat.reduceLT, Nat.reduceAdd, Nat.reduceSub, Nat.reduceMul, Nat.reduceBEq, Nat.reduceLeDiff, Int.reduceToNat, Int.reduceLE, hQ, ↓ctrRSee, ↓ctrMayR, ↓ctrNeeds, hlt, hle, zi, ga, hxo, hCi, htl, hcr, hm, hn, hh, hr, List.drop_zero]
      decide
    · have hy := hyes (by simp [canF, hm, hh])
      simp (maxSteps := 400000) only [↓preZ, postZ, coreZ, ↓preF, postF, D_all, F_all, unR, outL, onePV, binS, ↓binS, boundR, ↓boundR, fieldOf, ↓fieldOf, boxR, allocR, newObj, zeroElem, buildSliceR, appendR, setAll, storeR, St.freeze, makeSliceR, minmaxR, makeFuncR, BEq.rfl, reduceIte, reduceCtorEq, Nat.reduceLT, Nat.reduceAdd, Nat.reduceSub, Nat.reduceMul, Nat.reduceBEq, Nat.reduceLeDiff, Int.reduceToNat, Int.reduceLE, hQ, ↓ctrRSee, ↓ctrMayR, ↓ctrNeeds, hlt, hle, zi, ga, hxo, hCi, htl, hcr, hm, hn, hh, List.drop_zero]
      exact ⟨by decide, ⟨by omega, by omega⟩, m - 1, by omega, i + 1, by omega, hy, rfl⟩
  have hlt : ((i : Int) < (d.length : Int)) = False := eq_false (by omega)
  have hds : dsF l d = true := (dsF_iff d l).2 fun j x hx => hj j x (by have := (List.getElem?_eq_some_iff.1 hx).1; omega) hx
  rw [hds] at hres
  simp (maxSteps := 400000) only [↓preZ, postZ, coreZ, ↓preF, postF, D_all, F_all, unR, outL, onePV, binS, ↓binS, boundR, ↓boundR, fieldOf, ↓fieldOf, boxR, allocR, newObj, zeroElem, buildSliceR, appendR, setAll, storeR, St.freeze, makeSliceR, minmaxR, makeFuncR, BEq.rfl, reduceIte, reduceCtorEq, Nat.reduceLT, Nat.reduceAdd, Nat.reduceSub, Nat.reduceMul, Nat.reduceBEq, Nat.reduceLeDiff, Int.reduceToNat, Int.reduceLE, hQ, hlt, hres]

def ctrRRight : Ctr := fun args objs K => match args with
  | [a0] => ofE encK a0 (HK.mk : HK fun k => (OkS k) ∧ K (.bool (rightK k)) objs 0)
  | _ => False
theorem ctrRRight_ok : CtrOk Try.prog f_louperef23_Right (ctrRRight) := by
  intro args objs K h
  unfold ctrRRight at h
  split at h
  · rename_i a0
    obtain ⟨k, rfl, h1, hk⟩ := h
    exact ⟨_, _, _, .pure _ rfl (rright_spec k h1), hk⟩
  · exact h.elim

theorem bl_nil (a : List UInt8) : Op.bytesLess a [] = false := by cases a <;> rfl

theorem fright_spec (k : Dk) (hk : OkS k) : FnSpec Try.prog f_file_Right [encK k] [] (.bool (rightK k)) [] := by
  refine k_file_Right.pureG (T := tabL Try.prog [(f_file_isName, ctrIsName), (f_file_done, ctrFDone)]) 0 hD (kOk_tabL (tabOk_cons ctrIsName_ok (tabOk_cons ctrFDone_ok tabOk_nil))) hmix (by decide) fun Q hQ => ?_
  try simp only [F_all]
  simp (maxSteps := 400000) only [↓preZ, postZ, coreZ, ↓preF, postF, D_all, F_all, unR, outL, onePV, binS, ↓binS, boundR, ↓boundR, fieldOf, ↓fieldOf, boxR, allocR, newObj, zeroElem, buildSliceR, appendR, setAll, storeR, St.freeze, makeSliceR, minmaxR, makeFuncR, BEq.rfl, reduceIte, reduceCtorEq, Nat.reduceLT, Nat.reduceAdd, Nat.reduceSub, Nat.reduceMul, Nat.reduceBEq, Nat.reduceLeDiff, Int.reduceToNat, Int.reduceLE, hQ, c_file_Right]
  refine wpc_weak _ (Weak.freeze 1 0 (Nat.zero_le _) _) ?_
  obtain ⟨l, d⟩ := k
  have hL := hk.len
  have hN := hk.nm
  have hO := hk.ok
  simp only [] at hL hN hO
  have hres : rightK ⟨l, d⟩ = (nmF l && dsF l d) := rfl
  simp (maxSteps := 400000) only [↓preZ, postZ, coreZ, ↓preF, postF, D_all, F_all, unR, outL, onePV, binS, ↓binS, boundR, ↓boundR, fieldOf, ↓fieldOf, boxR, allocR, newObj, zeroElem, buildSliceR, appendR, setAll, storeR, St.freeze, makeSliceR, minmaxR, makeFuncR, BEq.rfl, reduceIte, reduceCtorEq, Nat.reduceLT, Nat.reduceAdd, Nat.reduceSub, Nat.reduceMul, Nat.reduceBEq, Nat.reduceLeDiff, Int.reduceToNat, Int.reduceLE, hQ]
  refine wpc_loop (fun m S => ∃ (i : Nat) (last : List UInt8), i + m = l.length ∧ (i = 0 → last = []) ∧ (∀ f, 0 < i → l[i - 1]? = some f → last = f.name) ∧ (∀ (j : Nat) (f : Fl), j < i → l[j]? = some f → nameOk f.name = true) ∧ (∀ (j : Nat) (a b : Fl), j + 1 < i → l[j]? = some a → l[j + 1]? = some b → Op.bytesLess a.name b.name = true) ∧
    S = ⟨tmA 50 [(1, .addr (encK ⟨l, d⟩)), (3, .str last), (12, encFs l), (13, .int .i64 l.length), (14, .int .i64 i)], []⟩) l.length ⟨0, [], by omega, fun _ => rfl, fun f h => absurd h (by omega), fun j f h => absurd h (by omega), fun j a b h => absurd h (by omega), ?_⟩ ?_ (hz := Nat.zero_le _)
  · simp only [normR, keepR, Nat.reduceAdd, lkR, Nat.reduceBEq, F_all, List.map_nil]
    rfl
  rintro m S ⟨i, last, him, hl0, hl1, hj1, hj2, rfl⟩
  have zi : (0 ≤ (i : Int)) = True := eq_true (by omega)
  rcases Nat.lt_or_ge i l.length with h | h
  · have hlt : ((i : Int) < (l.length : Int)) = True := eq_true (by omega)
    have ga := List.getElem?_eq_getElem h
    have hsx := eq_true (hN l[i] (List.getElem_mem h))
    generalize l[i] = x at ga hsx
    cases hn : nameOk x.name
    · have hr : rightK ⟨l, d⟩ = false := by rw [hres, nm_no fun h => by rw [((nmF_iff l).1 h).1 i x ga] at hn; cases hn]; rfl
      simp (maxSteps := 400000) only [↓preZ, postZ, coreZ, ↓preF, postF, D_all, F_all, unR, outL, onePV, binS, ↓binS, boundR, ↓boundR, fieldOf, ↓fieldOf, boxR, allocR, newObj, zeroElem, buildSliceR, appendR, setAll, storeR, St.freeze, makeSliceR, minmaxR, makeFuncR, BEq.rfl, reduceIte, reduceCtorEq, Nat.reduceLT, Nat.reduceAdd, Nat.reduceSub, Nat.reduceMul, Nat.reduceBEq, Nat.reduceLeDiff, Int.reduceToNat, Int.reduceLE, hQ, ↓ctrIsName, hlt, zi, ga, hsx, hn, hr]
    have step : Op.bytesLess x.name last = false → (x.name = last) = False → (0 < i → Op.bytesLess last x.name = true) → (∀ (j : Nat) (f : Fl), j < i + 1 → l[j]? = some f → nameOk f.name = true) ∧ (∀ (j : Nat) (a b : Fl), j + 1 < i + 1 → l[j]? = some a → l[j + 1]? = some b → Op.bytesLess a.name b.name = true) := by
      intro _ _ hlast
      refine ⟨fun j f hji hf => ?_, fun j a b hji ha hb' => ?_⟩
      · by_cases hjj : j = i
        · subst hjj; rw [ga] at hf; cases hf; exact hn
        · exact hj1 j f (by omega) hf
      · by_cases hjj : j + 1 = i
        · subst hjj
          rw [ga] at hb'; cases hb'
          have := hl1 a (by omega) (by simpa using ha)
          rw [← this]; exact hlast (by omega)
        · exact hj2 j a b (by omega) ha hb'
    have fin : ∀ f, 0 < i + 1 → l[i + 1 - 1]? = some f → x.name = f.name := by
      intro f _ hf
      rw [Nat.add_sub_cancel, ga] at hf; cases hf; rfl
    rcases Nat.eq_zero_or_pos i with h0 | h0
    · have hla := hl0 h0
      have e1 : Op.bytesLess x.name last = false := by rw [hla, bl_nil]
      have e2 : (x.name = last) = False := eq_false fun e => by
        rw [e, hla] at hn
        simp [nameOk] at hn
      obtain ⟨s1, s2⟩ := step e1 e2 (fun h => by omega)
      simp (maxSteps := 400000) only [↓preZ, postZ, coreZ, ↓preF, postF, D_all, F_all, unR, outL, onePV, binS, ↓binS, boundR, ↓boundR, fieldOf, ↓fieldOf, boxR, allocR, newObj, zeroElem, buildSliceR, appendR, setAll, storeR, St.freeze, makeSliceR, minmaxR, makeFuncR, BEq.rfl, reduceIte, reduceCtorEq, Nat.reduceLT, Nat.reduceAdd, Nat.reduceSub, Nat.reduceMul, Nat.reduceBEq, Nat.reduceLeDiff, Int.reduceToNat, Int.reduceLE, hQ, ↓ctrIsName, hlt, zi, ga, hsx, hn, e1, e2]
      exact ⟨⟨by omega, by omega⟩, m - 1, by omega, i + 1, x.name, by omega, fun h => by omega, fin, s1, s2, rfl⟩
    have gb : l[i - 1]? = some (l[i - 1]'(by omega)) := List.getElem?_eq_getElem (by omega)
    generalize l[i - 1]'(by omega) = y at gb
    have hla := hl1 y h0 gb
    have bad : Op.bytesLess y.name x.name = false → rightK ⟨l, d⟩ = false := fun hb => by
      rw [hres, nm_no fun h => by
        have := ((nmF_iff l).1 h).2 (i - 1) y x gb (by rw [show i - 1 + 1 = i by omega]; exact ga)
        rw [hb] at this; cases this]
      rfl
    rcases bl_tri y.name x.name with e | e | e
    · have e1 : Op.bytesLess x.name last = false := by rw [hla]; exact bl_asymm _ _ e
      have e2 : (x.name = last) = False := eq_false fun e' => by rw [e', hla, bl_irrefl] at e; cases e
      obtain ⟨s1, s2⟩ := step e1 e2 (fun h => by rw [hla]; exact e)
      simp (maxSteps := 400000) only [↓preZ, postZ, coreZ, ↓preF, postF, D_all, F_all, unR, outL, onePV, binS, ↓binS, boundR, ↓boundR, fieldOf, ↓fieldOf, boxR, allocR, newObj, zeroElem, buildSliceR, appendR, setAll, storeR, St.freeze, makeSliceR, minmaxR, makeFuncR, BEq.rfl, reduceIte, reduceCtorEq, Nat.reduceLT, Nat.reduceAdd, Nat.reduceSub, Nat.reduceMul, Nat.reduceBEq, Nat.reduceLeDiff, Int.reduceToNat, Int.reduceLE, hQ, ↓ctrIsName, hlt, zi, ga, hsx, hn, e1, e2]
      exact ⟨⟨by omega, by omega⟩, m - 1, by omega, i + 1, x.name, by omega, fun h => by omega, fin, s1, s2, rfl⟩
    · have hr := bad (by rw [e, bl_irrefl])
      have e1 : Op.bytesLess x.name last = false := by rw [hla, e, bl_irrefl]
      have e2 : (x.name = last) = True := eq_true (by rw [hla, e])
      simp (maxSteps := 400000) only [↓preZ, postZ, coreZ, ↓preF, postF, D_all, F_all, unR, outL, onePV, binS, ↓binS, boundR, ↓boundR, fieldOf, ↓fieldOf, boxR, allocR, newObj, zeroElem, buildSliceR, appendR, setAll, storeR, St.freeze, makeSliceR, minmaxR, makeFuncR, BEq.rfl, reduceIte, reduceCtorEq, Nat.reduceLT, Nat.reduceAdd, Nat.reduceSub, Nat.reduceMul, Nat.reduceBEq, Nat.reduceLeDiff, Int.reduceToNat, Int.reduceLE, hQ, ↓ctrIsName, hlt, zi, ga, hsx, hn, e1, e2, hr]
    · have hr := bad (bl_asymm _ _ e)
      have e1 : Op.bytesLess x.name last = true := by rw [hla]; exact e
      simp (maxSteps := 400000) only [↓preZ, postZ, coreZ, ↓preF, postF, D_all, F_all, unR, outL, onePV, binS, ↓binS, boundR, ↓boundR, fieldOf, ↓fieldOf, boxR, allocR, newObj, zeroElem, buildSliceR, appendR, setAll, storeR, St.freeze, makeSliceR, minmaxR, makeFuncR, BEq.rfl, reduceIte, reduceCtorEq, Nat.reduceLT, Nat.reduceAdd, Nat.reduceSub, Nat.reduceMul, Nat.reduceBEq, Nat.reduceLeDiff, Int.reduceToNat, Int.reduceLE, hQ, ↓ctrIsName, hlt, zi, ga, hsx, hn, e1, hr]
  have hlt : ((i : Int) < (l.length : Int)) = False := eq_false (by omega)
  have hnm : nmF l = true := (nmF_iff l).2 ⟨fun j f hf => hj1 j f (by have := (List.getElem?_eq_some_iff.1 hf).1; omega) hf, fun j a b ha hb => hj2 j a b (by have := (List.getElem?_eq_some_iff.1 hb).1; omega) ha hb⟩
  have hC := hk.okC (nm_ris hnm)
  simp only [] at hC
  rw [hnm, Bool.true_and] at hres
  simp (maxSteps := 400000) only [↓preZ, postZ, coreZ, ↓preF, postF, D_all, F_all, unR, outL, onePV, binS, ↓binS, boundR, ↓boundR, fieldOf, ↓fieldOf, boxR, allocR, newObj, zeroElem, buildSliceR, appendR, setAll, storeR, St.freeze, makeSliceR, minmaxR, makeFuncR, BEq.rfl, reduceIte, reduceCtorEq, Nat.reduceLT, Nat.reduceAdd, Nat.reduceSub, Nat.reduceMul, Nat.reduceBEq, Nat.reduceLeDiff, Int.reduceToNat, Int.reduceLE, hQ, hlt]
  clear hj1 hj2 hlt h him zi hl0 hl1
  refine wpc_loop (fun m S => ∃ i : Nat, i + m = d.length ∧ (∀ (j : Nat) (x : De), j < i → d[j]? = some x → canF ((d.take j).foldl doF l) x = true) ∧
    S = ⟨tmA 50 [(6, encFs ((d.take i).foldl doF l)), (34, encXs d), (35, .int .i64 d.length), (36, .int .i64 i)], []⟩) d.length ⟨0, by omega, fun j x h => absurd h (by omega), ?_⟩ ?_ (hz := Nat.zero_le _)
  · simp only [normR, keepR, Nat.reduceAdd, lkR, Nat.reduceBEq, F_all, List.map_nil]
    rfl
  rintro m S ⟨i, him, hj, rfl⟩
  have zi : (0 ≤ (i : Int)) = True := eq_true (by omega)
  rcases Nat.lt_or_ge i d.length with h | h
  · have hlt : ((i : Int) < (d.length : Int)) = True := eq_true (by omega)
    have ga := List.getElem?_eq_getElem h
    have hxo := eq_true (hO d[i] (List.getElem_mem h))
    have hoi := hC.at doF (fun _ _ => .inl rfl) (i := i) (by omega)
    have htk2 : (d.take (i + 1)).foldl doF l = doF ((d.take i).foldl doF l) d[i] := by
      rw [List.take_add_one, ga, Option.toList_some, List.foldl_append]; rfl
    generalize d[i] = x at ga hxo htk2
    have hno : ∀ c, canF ((d.take i).foldl doF l) x = c → c = false → rightK ⟨l, d⟩ = false := fun c hc h => by rw [hres]; exact ds_no ga (by rw [hc, h])
    have hyes : canF ((d.take i).foldl doF l) x = true → ∀ (j : Nat) (y : De), j < i + 1 → d[j]? = some y → canF ((d.take j).foldl doF l) y = true := by
      intro hc j y hji hy
      by_cases hjj : j = i
      · subst hjj; rw [ga] at hy; cases hy; exact hc
      · exact hj j y (by omega) hy
    generalize (d.take i).foldl doF l = li at hoi htk2 hno hyes
    have q1 := eq_true hoi.ris
    have q2 : (li.length ≤ 999998) = True := eq_true (by have := hoi.len; omega)
    have q3 := eq_true (bnd_of_mas (l := li) (by have := hoi.mas; omega))
    cases hc : canF li x
    · have hr := hno _ rfl hc
      simp (maxSteps := 400000) only [↓preZ, postZ, coreZ, ↓preF, postF, D_all, F_all, unR, outL, onePV, binS, ↓binS, boundR, ↓boundR, fieldOf, ↓fieldOf, boxR, allocR, newObj, zeroElem, buildSliceR, appendR, setAll, storeR, St.freeze, makeSliceR, minmaxR, makeFuncR, BEq.rfl, reduceIte, reduceCtorEq, Nat.reduceLT, Nat.reduceAdd, Nat.reduceSub, Nat.reduceMul, Nat.reduceBEq, Nat.reduceLeDiff, Int.reduceToNat, Int.reduceLE, hQ, ↓ctrFDone, hlt, zi, ga, hxo, q1, q2, q3, hc, hr]
    · have hy := hyes hc
      have hf : fdo li x = doF li x := by simp [fdo, hc]
      simp (maxSteps := 400000) only [↓preZ, postZ, coreZ, ↓preF, postF, D_all, F_all, unR, outL, onePV, binS, ↓binS, boundR, ↓boundR, fieldOf, ↓fieldOf, boxR, allocR, newObj, zeroElem, buildSliceR, appendR, setAll, storeR, St.freeze, makeSliceR, minmaxR, makeFuncR, BEq.rfl, reduceIte, reduceCtorEq, Nat.reduceLT, Nat.reduceAdd, Nat.reduceSub, Nat.reduceMul, Nat.reduceBEq, Nat.reduceLeDiff, Int.reduceToNat, Int.reduceLE, hQ, ↓ctrFDone, hlt, zi, ga, hxo, q1, q2, q3, hc, hf]
      exact ⟨⟨by omega, by omega⟩, m - 1, by omega, i + 1, by omega, hy, by rw [htk2]; rfl⟩
  have hlt : ((i : Int) < (d.length : Int)) = False := eq_false (by omega)
  have hds : dsF l d = true := (dsF_iff d l).2 fun j x hx => hj j x (by have := (List.getElem?_eq_some_iff.1 hx).1; omega) hx
  rw [hds] at hres
  simp (maxSteps := 400000) only [↓preZ, postZ, coreZ, ↓preF, postF, D_all, F_all, unR, outL, onePV, binS, ↓binS, boundR, ↓boundR, fieldOf, ↓fieldOf, boxR, allocR, newObj, zeroElem, buildSliceR, appendR, setAll, storeR, St.freeze, makeSliceR, minmaxR, makeFuncR, BEq.rfl, reduceIte, reduceCtorEq, Nat.reduceLT, Nat.reduceAdd, Nat.reduceSub, Nat.reduceMul, Nat.reduceBEq, Nat.reduceLeDiff, Int.reduceToNat, Int.reduceLE, hQ, hlt, hres]

def ctrFRight : Ctr := fun args objs K => match args with
  | [a0] => ofE encK a0 (HK.mk : HK fun k => (OkS k) ∧ K (.bool (rightK k)) objs 0)
  | _ => False
theorem ctrFRight_ok : CtrOk Try.prog f_file_Right (ctrFRight) := by
  intro args objs K h
  unfold ctrFRight at h
  split at h
  · rename_i a0
    obtain ⟨k, rfl, h1, hk⟩ := h
    exact ⟨_, _, _, .pure _ rfl (fright_spec k h1), hk⟩
  · exact h.elim

/-- Few files and deeds, and right. -/
def fewK (k : Dk) : Bool := smK k && rightK k

theorem sm_okS {k : Dk} (h : smK k = true) : OkS k := by
  unfold smK at h
  rw [Bool.and_eq_true, Bool.and_eq_true, decide_eq_true_eq] at h
  obtain ⟨⟨h1, h2⟩, h3, h4⟩ := h
  rw [List.all_eq_true] at h3 h4
  have a1 : ∀ l : List Fl, (∀ f ∈ l, smF f = true) → masF l ≤ l.length * 2000 := by
    intro l
    induction l with
    | nil => intro _; simp [masF]
    | cons f l ih =>
      intro h
      have h5 := ih fun g hg => h g (by simp [hg])
      have h6 := of_decide_eq_true (h f (by simp))
      simp only [masF, List.map_cons, List.sum_cons, List.length_cons] at *; omega
  have a2 : ∀ l : List De, (∀ f ∈ l, smX f = true) → masX l ≤ l.length * 2000 := by
    intro l
    induction l with
    | nil => intro _; simp [masX]
    | cons f l ih =>
      intro h
      have h5 := ih fun g hg => h g (by simp [hg])
      have h6 := of_decide_eq_true (h f (by simp))
      simp only [masX, List.map_cons, List.sum_cons, List.length_cons] at *; omega
  have b1 := a1 k.l h3
  have b2 := a2 k.d h4
  refine ⟨by omega, by omega, fun x hx => ?_, fun f hf => ?_⟩
  · have := of_decide_eq_true (h4 x hx)
    exact ⟨by omega, by omega⟩
  · have := of_decide_eq_true (h3 f hf)
    omega

theorem few_spec (k : Dk) (hk : okK k) (ht : okT k) : FnSpec Try.prog f_louperef23_Few [encK k] [] (.bool (fewK k)) [] := by
  refine k_louperef23_Few.pureG (T := tabL Try.prog [(f_louperef23_Small, ctrSmall), (f_louperef23_Right, ctrRRight)]) 0 hD (kOk_tabL (tabOk_cons ctrSmall_ok (tabOk_cons ctrRRight_ok tabOk_nil))) hmix (by decide) fun Q hQ => ?_
  try simp only [F_all]
  simp (maxSteps := 400000) only [↓preZ, postZ, coreZ, ↓preF, postF, D_all, F_all, unR, outL, onePV, binS, ↓binS, boundR, ↓boundR, fieldOf, ↓fieldOf, boxR, allocR, newObj, zeroElem, buildSliceR, appendR, setAll, storeR, St.freeze, makeSliceR, minmaxR, makeFuncR, BEq.rfl, reduceIte, reduceCtorEq, Nat.reduceLT, Nat.reduceAdd, Nat.reduceSub, Nat.reduceMul, Nat.reduceBEq, Nat.reduceLeDiff, Int.reduceToNat, Int.reduceLE, hQ, c_louperef23_Few]
  refine wpc_weak _ (Weak.freeze 1 0 (Nat.zero_le _) _) ?_
  have h1 := eq_true hk
  have h2 := eq_true ht
  have hr : fewK k = (smK k && rightK k) := rfl
  cases hs : smK k
  · simp (maxSteps := 400000) only [↓preZ, postZ, coreZ, ↓preF, postF, D_all, F_all, unR, outL, onePV, binS, ↓binS, boundR, ↓boundR, fieldOf, ↓fieldOf, boxR, allocR, newObj, zeroElem, buildSliceR, appendR, setAll, storeR, St.freeze, makeSliceR, minmaxR, makeFuncR, BEq.rfl, reduceIte, reduceCtorEq, Nat.reduceLT, Nat.reduceAdd, Nat.reduceSub, Nat.reduceMul, Nat.reduceBEq, Nat.reduceLeDiff, Int.reduceToNat, Int.reduceLE, hQ, ↓ctrSmall, h1, h2, hs, hr, Bool.false_and]
  · have h3 := eq_true (sm_okS hs)
    simp (maxSteps := 400000) only [↓preZ, postZ, coreZ, ↓preF, postF, D_all, F_all, unR, outL, onePV, binS, ↓binS, boundR, ↓boundR, fieldOf, ↓fieldOf, boxR, allocR, newObj, zeroElem, buildSliceR, appendR, setAll, storeR, St.freeze, makeSliceR, minmaxR, makeFuncR, BEq.rfl, reduceIte, reduceCtorEq, Nat.reduceLT, Nat.reduceAdd, Nat.reduceSub, Nat.reduceMul, Nat.reduceBEq, Nat.reduceLeDiff, Int.reduceToNat, Int.reduceLE, hQ, ↓ctrSmall, ↓ctrRRight, h1, h2, h3, hs, hr]

def ctrFew : Ctr := fun args objs K => match args with
  | [a0] => ofE encK a0 (HK.mk : HK fun k => (okK k) ∧ (okT k) ∧ K (.bool (fewK k)) objs 0)
  | _ => False
theorem ctrFew_ok : CtrOk Try.prog f_louperef23_Few (ctrFew) := by
  intro args objs K h
  unfold ctrFew at h
  split at h
  · rename_i a0
    obtain ⟨k, rfl, h1, h2, hk⟩ := h
    exact ⟨_, _, _, .pure _ rfl (few_spec k h1 h2), hk⟩
  · exact h.elim

end Lp

/-! LpW49 -/

namespace Lp
open Go Go.Proofs

set_option maxHeartbeats 4000000
set_option maxRecDepth 20000
set_option linter.unusedSimpArgs false

/-- Is a text another's beginning? -/
def hpx (s p : List UInt8) : Bool := decide (p.length ≤ s.length) && decide (s.take p.length = p)

theorem hasPrefix_spec (s p : List UInt8) (_hs : s.length ≤ 4611686018427387904) (hp : p.length ≤ 4611686018427387904) : FnSpec Try.prog f_stringslite_HasPrefix [.str s, .str p] [] (.bool (hpx s p)) [] := by
  refine k_stringslite_HasPrefix.pureG (T := tabL Try.prog []) 0 hD (kOk_tabL tabOk_nil) hmix (by decide) fun Q hQ => ?_
  try simp only [F_all]
  have hr : hpx s p = (decide (p.length ≤ s.length) && decide (s.take p.length = p)) := rfl
  by_cases h : p.length ≤ s.length
  · have h1 : ((p.length : Int) ≤ (s.length : Int)) = True := eq_true (by omega)
    have z : (0 ≤ (p.length : Int)) = True := eq_true (by omega)
    rcases tf (s.take p.length = p) with h2 | h2
    all_goals
      have hr' : hpx s p = decide (s.take p.length = p) := by rw [hr, decide_eq_true h]; rfl
      simp (maxSteps := 400000) only [↓preZ, postZ, coreZ, ↓preF, postF, D_all, F_all, unR, outL, onePV, binS, ↓binS, boundR, ↓boundR, fieldOf, ↓fieldOf, boxR, allocR, newObj, zeroElem, buildSliceR, appendR, setAll, storeR, St.freeze, makeSliceR, minmaxR, makeFuncR, BEq.rfl, reduceIte, reduceCtorEq, Nat.reduceLT, Nat.reduceAdd, Nat.reduceSub, Nat.reduceMul, Nat.reduceBEq, Nat.reduceLeDiff, Int.reduceToNat, Int.reduceLE, hQ, c_stringslite_HasPrefix, h1, z, h2, hr', List.drop_zero]
  · have h1 : ((p.length : Int) ≤ (s.length : Int)) = False := eq_false (by omega)
    have hr' : hpx s p = false := by rw [hr, decide_eq_false h]; rfl
    simp (maxSteps := 400000) only [↓preZ, postZ, coreZ, ↓preF, postF, D_all, F_all, unR, outL, onePV, binS, ↓binS, boundR, ↓boundR, fieldOf, ↓fieldOf, boxR, allocR, newObj, zeroElem, buildSliceR, appendR, setAll, storeR, St.freeze, makeSliceR, minmaxR, makeFuncR, BEq.rfl, reduceIte, reduceCtorEq, Nat.reduceLT, Nat.reduceAdd, Nat.reduceSub, Nat.reduceMul, Nat.reduceBEq, Nat.reduceLeDiff, Int.reduceToNat, Int.reduceLE, hQ, c_stringslite_HasPrefix, h1, hr']

def ctrHasPrefix : Ctr := fun args objs K => match args with
  | [.str s, .str p] => (s.length ≤ 4611686018427387904) ∧ (p.length ≤ 4611686018427387904) ∧ K (.bool (hpx s p)) objs 0
  | _ => False
theorem ctrHasPrefix_ok : CtrOk Try.prog f_stringslite_HasPrefix (ctrHasPrefix) := by
  intro args objs K h
  unfold ctrHasPrefix at h
  split at h
  · rename_i s p
    obtain ⟨h1, h2, hk⟩ := h
    exact ⟨_, _, _, .pure _ rfl (hasPrefix_spec s p h1 h2), hk⟩
  · exact h.elim

def trimP (s p : List UInt8) : List UInt8 := if hpx s p = true then s.drop p.length else s

theorem trimPrefix_spec (s p : List UInt8) (hs : s.length ≤ 4611686018427387904) (hp : p.length ≤ 4611686018427387904) : FnSpec Try.prog f_stringslite_TrimPrefix [.str s, .str p] [] (.str (trimP s p)) [] := by
  refine k_stringslite_TrimPrefix.pureG (T := tabL Try.prog [(f_stringslite_HasPrefix, ctrHasPrefix)]) 0 hD (kOk_tabL (tabOk_cons ctrHasPrefix_ok tabOk_nil)) hmix (by decide) fun Q hQ => ?_
  try simp only [F_all]
  have h1 := eq_true hs
  have h2 := eq_true hp
  cases h : hpx s p
  · have hr : trimP s p = s := by simp [trimP, h]
    simp (maxSteps := 400000) only [↓preZ, postZ, coreZ, ↓preF, postF, D_all, F_all, unR, outL, onePV, binS, ↓binS, boundR, ↓boundR, fieldOf, ↓fieldOf, boxR, allocR, newObj, zeroElem, buildSliceR, appendR, setAll, storeR, St.freeze, makeSliceR, minmaxR, makeFuncR, BEq.rfl, reduceIte, reduceCtorEq, Nat.reduceLT, Nat.reduceAdd, Nat.reduceSub, Nat.reduceMul, Nat.reduceBEq, Nat.reduceLeDiff, Int.reduceToNat, Int.reduceLE, hQ, c_stringslite_TrimPrefix, ↓ctrHasPrefix, h1, h2, h, hr]
  · have hr : trimP s p = s.drop p.length := by simp [trimP, h]
    have hl : p.length ≤ s.length := by unfold hpx at h; rw [Bool.and_eq_true] at h; exact of_decide_eq_true h.1
    have h3 : ((p.length : Int) ≤ (s.length : Int)) = True := eq_true (by omega)
    have z : (0 ≤ (p.length : Int)) = True := eq_true (by omega)
    simp (maxSteps := 400000) only [↓preZ, postZ, coreZ, ↓preF, postF, D_all, F_all, unR, outL, onePV, binS, ↓binS, boundR, ↓boundR, fieldOf, ↓fieldOf, boxR, allocR, newObj, zeroElem, buildSliceR, appendR, setAll, storeR, St.freeze, makeSliceR, minmaxR, makeFuncR, BEq.rfl, reduceIte, reduceCtorEq, Nat.reduceLT, Nat.reduceAdd, Nat.reduceSub, Nat.reduceMul, Nat.reduceBEq, Nat.reduceLeDiff, Int.reduceToNat, Int.reduceLE, hQ, c_stringslite_TrimPrefix, ↓ctrHasPrefix, h1, h2, h, hr, h3, z, List.take_length]
    omega

def ctrTrimP : Ctr := fun args objs K => match args with
  | [.str s, .str p] => (s.length ≤ 4611686018427387904) ∧ (p.length ≤ 4611686018427387904) ∧ K (.str (trimP s p)) objs 0
  | _ => False
theorem ctrTrimP_ok : CtrOk Try.prog f_stringslite_TrimPrefix (ctrTrimP) := by
  intro args objs K h
  unfold ctrTrimP at h
  split at h
  · rename_i s p
    obtain ⟨h1, h2, hk⟩ := h
    exact ⟨_, _, _, .pure _ rfl (trimPrefix_spec s p h1 h2), hk⟩
  · exact h.elim

theorem trim_spec (s p : List UInt8) (hs : s.length ≤ 4611686018427387904) (hp : p.length ≤ 4611686018427387904) : FnSpec Try.prog f_strings_TrimPrefix [.str s, .str p] [] (.str (trimP s p)) [] := by
  refine k_strings_TrimPrefix.pureG (T := tabL Try.prog [(f_stringslite_TrimPrefix, ctrTrimP)]) 0 hD (kOk_tabL (tabOk_cons ctrTrimP_ok tabOk_nil)) hmix (by decide) fun Q hQ => ?_
  try simp only [F_all]
  have h1 := eq_true hs
  have h2 := eq_true hp
  simp (maxSteps := 400000) only [↓preZ, postZ, coreZ, ↓preF, postF, D_all, F_all, unR, outL, onePV, binS, ↓binS, boundR, ↓boundR, fieldOf, ↓fieldOf, boxR, allocR, newObj, zeroElem, buildSliceR, appendR, setAll, storeR, St.freeze, makeSliceR, minmaxR, makeFuncR, BEq.rfl, reduceIte, reduceCtorEq, Nat.reduceLT, Nat.reduceAdd, Nat.reduceSub, Nat.reduceMul, Nat.reduceBEq, Nat.reduceLeDiff, Int.reduceToNat, Int.reduceLE, hQ, c_strings_TrimPrefix, ↓ctrTrimP, h1, h2]

def ctrTrim : Ctr := fun args objs K => match args with
  | [.str s, .str p] => (s.length ≤ 4611686018427387904) ∧ (p.length ≤ 4611686018427387904) ∧ K (.str (trimP s p)) objs 0
  | _ => False
theorem ctrTrim_ok : CtrOk Try.prog f_strings_TrimPrefix (ctrTrim) := by
  intro args objs K h
  unfold ctrTrim at h
  split at h
  · rename_i s p
    obtain ⟨h1, h2, hk⟩ := h
    exact ⟨_, _, _, .pure _ rfl (trim_spec s p h1 h2), hk⟩
  · exact h.elim

theorem trim_take (s : List UInt8) (n : Nat) (h : n ≤ s.length) : trimP s (s.take n) = s.drop n := by
  have hl : (s.take n).length = n := by simp; omega
  have : hpx s (s.take n) = true := by simp [hpx, hl, h]
  simp [trimP, this, hl]

/-! ### Plans -/

def chk (t : List UInt8) : Nat → List UInt8 → List De
  | 0, _ => []
  | n + 1, s => if s = [] then [] else ⟨1, t, s.take 64⟩ :: chk t n (s.drop 64)

theorem chk_more (t : List UInt8) : ∀ (n m : Nat) (s : List UInt8), s.length ≤ n → s.length ≤ m → chk t n s = chk t m s
  | 0, 0, _, _, _ => rfl
  | 0, m + 1, s, h, _ => by
    have : s = [] := List.eq_nil_of_length_eq_zero (by omega)
    simp [chk, this]
  | n + 1, 0, s, _, h => by
    have : s = [] := List.eq_nil_of_length_eq_zero (by omega)
    simp [chk, this]
  | n + 1, m + 1, s, h1, h2 => by
    simp only [chk]
    split
    · rfl
    · rename_i hs
      have : 0 < s.length := List.length_pos_iff.2 hs
      rw [chk_more t n m (s.drop 64) (by simp; omega) (by simp; omega)]

/-- What lays a text behind a file, in pieces. -/
def chunks (t s : List UInt8) : List De := chk t s.length s

theorem chunks_nil (t : List UInt8) : chunks t [] = [] := rfl

theorem chunks_cons (t s : List UInt8) (h : s ≠ []) : chunks t s = ⟨1, t, s.take 64⟩ :: chunks t (s.drop 64) := by
  have hp : 0 < s.length := List.length_pos_iff.2 h
  obtain ⟨n, hn⟩ : ∃ n, s.length = n + 1 := ⟨s.length - 1, by omega⟩
  unfold chunks
  rw [hn]
  simp only [chk, if_neg h]
  rw [chk_more t n (s.drop 64).length (s.drop 64) (by simp; omega) (Nat.le_refl _)]

def tmpF (name : List UInt8) : List UInt8 := name ++ [46, 116, 109, 112]

def planF (name s : List UInt8) : List De := ⟨0, tmpF name, []⟩ :: (chunks (tmpF name) s ++ [⟨4, [], []⟩, ⟨2, tmpF name, name⟩, ⟨4, [], []⟩])

theorem fplan_spec (name s : List UInt8) (hn : name.length ≤ 1000000) (hs : s.length ≤ 1000000) : FnSpec Try.prog f_file_Plan [.str name, .str s] [] (encXs (planF name s)) [] := by
  refine k_file_Plan.pureG (T := tabL Try.prog [(f_strings_TrimPrefix, ctrTrim)]) 1 hD (kOk_tabL (tabOk_cons ctrTrim_ok tabOk_nil)) hmix (by decide) fun Q hQ => ?_
  try simp only [F_all]
  have ht : name ++ [46, 116, 109, 112] = tmpF name := rfl
  have hnl : (name.length ≤ 9223372036854775803) = True := eq_true (by omega)
  simp (maxSteps := 400000) only [↓preZ, postZ, coreZ, ↓preF, postF, D_all, F_all, unR, outL, onePV, binS, ↓binS, boundR, ↓boundR, fieldOf, ↓fieldOf, boxR, allocR, newObj, zeroElem, buildSliceR, appendR, setAll, storeR, St.freeze, makeSliceR, minmaxR, makeFuncR, BEq.rfl, reduceIte, reduceCtorEq, Nat.reduceLT, Nat.reduceAdd, Nat.reduceSub, Nat.reduceMul, Nat.reduceBEq, Nat.reduceLeDiff, Int.reduceToNat, Int.reduceLE, hQ, c_file_Plan, ht, hnl]
  refine wpc_loop (fun m S => ∃ (done : List De) (rest : List UInt8) (ver : Nat), m = rest.length ∧ done ++ chunks (tmpF name) rest = chunks (tmpF name) s ∧ done.length + rest.length ≤ s.length ∧
    S = ⟨tmA 40 [(0, .str name), (1, .str rest), (5, .str (tmpF name)), (6, .osl 0 ver)], [⟨t_api_Deed, 3, ((⟨0, tmpF name, []⟩ :: done : List De)).map encX, true, ver⟩]⟩) s.length ⟨[], s, 1, rfl, rfl, by simp, ?_⟩ ?_
  · simp only [normR, keepR, Nat.reduceAdd, lkR, Nat.reduceBEq, F_all, List.map_nil]
    rfl
  rintro m S ⟨done, rest, ver, rfl, hc, hdl, rfl⟩
  have ht64 : ∀ x : List UInt8, x.take 64 = x.take (min x.length 64) := fun x => by
    by_cases h : x.length ≤ 64
    · rw [Nat.min_eq_left h, List.take_of_length_le h, List.take_length]
    · rw [Nat.min_eq_right (by omega)]
  by_cases hr : rest = []
  · subst hr
    have hlt : (0 < (([] : List UInt8).length : Int)) = False := eq_false (by simp)
    rw [chunks_nil, List.append_nil] at hc
    have hp : planF name s = (⟨0, tmpF name, []⟩ :: done) ++ [⟨4, [], []⟩, ⟨2, tmpF name, name⟩, ⟨4, [], []⟩] := by simp [planF, hc]
    simp (maxSteps := 400000) only [↓preZ, postZ, coreZ, ↓preF, postF, D_all, F_all, unR, outL, onePV, binS, ↓binS, boundR, ↓boundR, fieldOf, ↓fieldOf, boxR, allocR, newObj, zeroElem, buildSliceR, appendR, setAll, storeR, St.freeze, makeSliceR, minmaxR, makeFuncR, BEq.rfl, reduceIte, reduceCtorEq, Nat.reduceLT, Nat.reduceAdd, Nat.reduceSub, Nat.reduceMul, Nat.reduceBEq, Nat.reduceLeDiff, Int.reduceToNat, Int.reduceLE, hQ, hlt, hp, List.length_nil, Int.natCast_zero, Int.lt_irrefl]
    refine ⟨fun y hy => ?_, by omega, by omega, ((frzRow hX inX).1 0 t_api_Deed ((⟨0, tmpF name, []⟩ : De) :: (done ++ [(⟨4, [], []⟩ : De), (⟨2, tmpF name, name⟩ : De), (⟨4, [], []⟩ : De)])) (ver + 1) []).symm⟩
    simp only [List.mem_cons, List.not_mem_nil, or_false] at hy
    rcases hy with rfl | rfl | rfl <;> exact ⟨rfl, rfl⟩
  · have hpos : 0 < rest.length := List.length_pos_iff.2 hr
    have hlt : (0 < (rest.length : Int)) = True := eq_true (by omega)
    obtain ⟨c, hcm, hc1⟩ : ∃ c : Nat, (if (64 : Int) < (rest.length : Int) then (64 : Int) else (rest.length : Int)) = (c : Int) ∧ c = min rest.length 64 := by
      refine ⟨min rest.length 64, ?_, rfl⟩
      split <;> omega
    have hcl : c ≤ rest.length := by omega
    have hc0 : 0 < c := by omega
    have zc : (0 ≤ (c : Int)) = True := eq_true (by omega)
    have hcl' : ((c : Int) ≤ (rest.length : Int)) = True := eq_true (by omega)
    have htk : rest.take 64 = rest.take c := by rw [ht64, ← hc1]
    have hdr : rest.drop 64 = rest.drop c := by
      by_cases h : rest.length ≤ 64
      · rw [List.drop_eq_nil_of_le h, List.drop_eq_nil_of_le (by omega)]
      · have : c = 64 := by omega
        rw [this]
    rw [chunks_cons _ _ hr, htk, hdr] at hc
    have htr := trim_take rest c hcl
    have l1 : (rest.length ≤ 4611686018427387904) = True := eq_true (by omega)
    have l2 : ((rest.take c).length ≤ 4611686018427387904) = True := eq_true (by simp; omega)
    simp (maxSteps := 400000) only [↓preZ, postZ, coreZ, ↓preF, postF, D_all, F_all, unR, outL, onePV, binS, ↓binS, boundR, ↓boundR, fieldOf, ↓fieldOf, boxR, allocR, newObj, zeroElem, buildSliceR, appendR, setAll, storeR, St.freeze, makeSliceR, minmaxR, makeFuncR, BEq.rfl, reduceIte, reduceCtorEq, Nat.reduceLT, Nat.reduceAdd, Nat.reduceSub, Nat.reduceMul, Nat.reduceBEq, Nat.reduceLeDiff, Int.reduceToNat, Int.reduceLE, hQ, hlt, hcm, zc, hcl', List.drop_zero, ↓ctrTrim, htr, l1, l2]
    refine ⟨by omega, by omega, (rest.drop c).length, by simp; omega, done ++ [⟨1, tmpF name, rest.take c⟩], rest.drop c, ver + 1, rfl, by simpa using hc, by simp; omega, rfl⟩


def ctrFPlan : Ctr := fun args objs K => match args with
  | [.str name, .str s] => (name.length ≤ 1000000) ∧ (s.length ≤ 1000000) ∧ K (encXs (planF name s)) objs 0
  | _ => False
theorem ctrFPlan_ok : CtrOk Try.prog f_file_Plan (ctrFPlan) := by
  intro args objs K h
  unfold ctrFPlan at h
  split at h
  · rename_i name s
    obtain ⟨h1, h2, hk⟩ := h
    exact ⟨_, _, _, .pure _ rfl (fplan_spec name s h1 h2), hk⟩
  · exact h.elim

theorem rplan_spec (name s : List UInt8) (hn : name.length ≤ 1000000) (hs : s.length ≤ 1000000) : FnSpec Try.prog f_louperef23_Plan [.str name, .str s] [] (encXs (planF name s)) [] := by
  refine k_louperef23_Plan.pureG (T := tabL Try.prog []) 1 hD (kOk_tabL tabOk_nil) hmix (by decide) fun Q hQ => ?_
  try simp only [F_all]
  have ht : name ++ [46, 116, 109, 112] = tmpF name := rfl
  have hnl : (name.length ≤ 9223372036854775803) = True := eq_true (by omega)
  simp (maxSteps := 400000) only [↓preZ, postZ, coreZ, ↓preF, postF, D_all, F_all, unR, outL, onePV, binS, ↓binS, boundR, ↓boundR, fieldOf, ↓fieldOf, boxR, allocR, newObj, zeroElem, buildSliceR, appendR, setAll, storeR, St.freeze, makeSliceR, minmaxR, makeFuncR, BEq.rfl, reduceIte, reduceCtorEq, Nat.reduceLT, Nat.reduceAdd, Nat.reduceSub, Nat.reduceMul, Nat.reduceBEq, Nat.reduceLeDiff, Int.reduceToNat, Int.reduceLE, hQ, c_louperef23_Plan, ht, hnl]
  refine wpc_loop (fun m S => ∃ (done : List De) (rest : List UInt8) (ver : Nat), m = rest.length ∧ done ++ chunks (tmpF name) rest = chunks (tmpF name) s ∧ done.length + rest.length ≤ s.length ∧
    S = ⟨tmA 40 [(0, .str name), (1, .str rest), (5, .str (tmpF name)), (6, .osl 0 ver)], [⟨t_api_Deed, 3, ((⟨0, tmpF name, []⟩ :: done : List De)).map encX, true, ver⟩]⟩) s.length ⟨[], s, 1, rfl, rfl, by simp, ?_⟩ ?_
  · simp only [normR, keepR, Nat.reduceAdd, lkR, Nat.reduceBEq, F_all, List.map_nil]
    rfl
  rintro m S ⟨done, rest, ver, rfl, hc, hdl, rfl⟩
  have ht64 : ∀ x : List UInt8, x.take 64 = x.take (min x.length 64) := fun x => by
    by_cases h : x.length ≤ 64
    · rw [Nat.min_eq_left h, List.take_of_length_le h, List.take_length]
    · rw [Nat.min_eq_right (by omega)]
  by_cases hr : rest = []
  · subst hr
    have hlt : (0 < (([] : List UInt8).length : Int)) = False := eq_false (by simp)
    rw [chunks_nil, List.append_nil] at hc
    have hp : planF name s = (⟨0, tmpF name, []⟩ :: done) ++ [⟨4, [], []⟩, ⟨2, tmpF name, name⟩, ⟨4, [], []⟩] := by simp [planF, hc]
    simp (maxSteps := 400000) only [↓preZ, postZ, coreZ, ↓preF, postF, D_all, F_all, unR, outL, onePV, binS, ↓binS, boundR, ↓boundR, fieldOf, ↓fieldOf, boxR, allocR, newObj, zeroElem, buildSliceR, appendR, setAll, storeR, St.freeze, makeSliceR, minmaxR, makeFuncR, BEq.rfl, reduceIte, reduceCtorEq, Nat.reduceLT, Nat.reduceAdd, Nat.reduceSub, Nat.reduceMul, Nat.reduceBEq, Nat.reduceLeDiff, Int.reduceToNat, Int.reduceLE, hQ, hlt, hp, List.length_nil, Int.natCast_zero, Int.lt_irrefl]
    refine ⟨fun y hy => ?_, by omega, by omega, ((frzRow hX inX).1 0 t_api_Deed ((⟨0, tmpF name, []⟩ : De) :: (done ++ [(⟨4, [], []⟩ : De), (⟨2, tmpF name, name⟩ : De), (⟨4, [], []⟩ : De)])) (ver + 1) _).symm⟩
    simp only [List.mem_cons, List.not_mem_nil, or_false] at hy
    rcases hy with rfl | rfl | rfl <;> exact ⟨rfl, rfl⟩
  · have hpos : 0 < rest.length := List.length_pos_iff.2 hr
    have hlt : (0 < (rest.length : Int)) = True := eq_true (by omega)
    obtain ⟨c, hcm, hc1⟩ : ∃ c : Nat, (if (64 : Int) < (rest.length : Int) then (64 : Int) else (rest.length : Int)) = (c : Int) ∧ c = min rest.length 64 := by
      refine ⟨min rest.length 64, ?_, rfl⟩
      split <;> omega
    have hcl : c ≤ rest.length := by omega
    have hc0 : 0 < c := by omega
    have zc : (0 ≤ (c : Int)) = True := eq_true (by omega)
    have hcl' : ((c : Int) ≤ (rest.length : Int)) = True := eq_true (by omega)
    have htk : rest.take 64 = rest.take c := by rw [ht64, ← hc1]
    have hdr : rest.drop 64 = rest.drop c := by
      by_cases h : rest.length ≤ 64
      · rw [List.drop_eq_nil_of_le h, List.drop_eq_nil_of_le (by omega)]
      · have : c = 64 := by omega
        rw [this]
    rw [chunks_cons _ _ hr, htk, hdr] at hc
    simp (maxSteps := 400000) only [↓preZ, postZ, coreZ, ↓preF, postF, D_all, F_all, unR, outL, onePV, binS, ↓binS, boundR, ↓boundR, fieldOf, ↓fieldOf, boxR, allocR, newObj, zeroElem, buildSliceR, appendR, setAll, storeR, St.freeze, makeSliceR, minmaxR, makeFuncR, BEq.rfl, reduceIte, reduceCtorEq, Nat.reduceLT, Nat.reduceAdd, Nat.reduceSub, Nat.reduceMul, Nat.reduceBEq, Nat.reduceLeDiff, Int.reduceToNat, Int.reduceLE, hQ, hlt, hcm, zc, hcl', List.drop_zero, List.take_length]
    refine ⟨by omega, by omega, by omega, (rest.drop c).length, by simp; omega, done ++ [⟨1, tmpF name, rest.take c⟩], rest.drop c, ver + 1, rfl, by simpa using hc, by simp; omega, rfl⟩

def ctrRPlan : Ctr := fun args objs K => match args with
  | [.str name, .str s] => (name.length ≤ 1000000) ∧ (s.length ≤ 1000000) ∧ K (encXs (planF name s)) objs 0
  | _ => False
theorem ctrRPlan_ok : CtrOk Try.prog f_louperef23_Plan (ctrRPlan) := by
  intro args objs K h
  unfold ctrRPlan at h
  split at h
  · rename_i name s
    obtain ⟨h1, h2, hk⟩ := h
    exact ⟨_, _, _, .pure _ rfl (rplan_spec name s h1 h2), hk⟩
  · exact h.elim

end Lp

/-! LpF4 -/

namespace Lp
open Go Go.Proofs Go.Lib Go.RowKit

set_option maxHeartbeats 4000000 in
set_option maxRecDepth 100000 in
theorem clip_nil (w : World) : Calls Try.prog 81 #[.slice none 0 0] w fun e w' => e = .returned (.slice none 0 0) ∧ w' = w := by
  have mixed : Try.prog.follows .mixedOrders = true := by kernel_rfl
  go_enter Try.func81, Try.ntmps81
  go_wp2
  go_ret
  exact ⟨rfl, rfl⟩

set_option maxHeartbeats 4000000 in
set_option maxRecDepth 100000 in
theorem clip_walk (a : Addr) (n c : Nat) (w : World) (hnc : n ≤ c) (hc63 : c ≤ 9223372036854775807) :
    Calls Try.prog 81 #[.slice (some a) n c] w fun e w' => (∃ a', e = .returned (.slice (some a') n n) ∧ (a.spot = none → a' = a)) ∧ w' = w := by
  have mixed : Try.prog.follows .mixedOrders = true := by kernel_rfl
  have hnc' : (n : Int) ≤ (c : Int) := by omega
  go_enter Try.func81, Try.ntmps81
  go_wp2
  go_ret
  refine ⟨⟨_, rfl, fun h => ?_⟩, rfl⟩
  simp [Addr.add, h]

theorem one {R : PV → Value → Prop} {p : PV} {vs : List Value} (h : RepL R [p] vs) : ∃ u, vs = [u] ∧ R p u := by
  obtain ⟨hl, h⟩ := h
  match vs, hl with
  | [u], _ => exact ⟨u, rfl, h 0 _ _ rfl rfl⟩

theorem clip_spec (sz : Nat) (xs : List PV) (q : Option Bool) : FnSpec Try.prog 81 [.sl sz xs q] [] (.cl sz xs) [] := by
  refine ⟨⟨_, Try.func81, by kernel_rfl, by kernel_rfl⟩, fun w blk vs base hb R hargs => ?_⟩
  obtain ⟨v, rfl, r⟩ := one hargs
  have hr := r.sl
  have key : ∀ (a : Addr) n c, v = .slice (some a) n c → n ≤ c → c ≤ 9223372036854775807 → (∀ a' c', (a.spot = none → a' = a) → n ≤ c' → c' ≤ c → Rep w (okL base [] blk) (.sl sz xs none) (.slice (some a') n c')) →
      Calls Try.prog 81 #[v] w fun e w' => ∃ v blk', e = .returned v ∧ ObjsRel base (fun b => b < w.heap.size ∧ notLive [] blk b) [] blk' w' ∧
      RepT w' (okL base [] blk') [] blk' (.cl sz xs) v ∧ (∀ b, b < w.heap.size → notLive [] blk b → w'.heap[b]? = w.heap[b]?) ∧ w.heap.size ≤ w'.heap.size ∧ Sm w w' := by
    intro a n c ev h3 h4 h5
    subst ev
    refine (clip_walk a n c w h3 h4).mono fun e w' ⟨⟨b', e1, e2⟩, e3⟩ => ?_
    subst e3
    exact ⟨_, blk, e1, R, .of_rep (.cl sz xs _ (h5 b' n e2 (Nat.le_refl _) h3) (fun a l c h => by cases h; rfl)), fun _ _ _ => rfl, Nat.le_refl _, .refl _⟩
  cases hr with
  | slnil =>
    refine (clip_nil w).mono fun e w' ⟨e1, e3⟩ => ?_
    subst e3
    exact ⟨_, blk, e1, R, .of_rep (.cl sz [] _ (.slnil sz none (by decide)) (fun a l c h => by cases h; rfl)), fun _ _ _ => rfl, Nat.le_refl _, .refl _⟩
  | slz _ _ hq a cap hcap => exact key a 0 cap rfl (Nat.zero_le _) (by unfold maxLen at hcap; omega) (fun a' c' _ _ h2 => .slz sz none (by decide) a' c' (Nat.le_trans h2 hcap))
  | sl _ _ _ hq b off cap vs hok hlen hcap hsz hcell hrep =>
    exact key _ _ _ rfl hlen (by unfold maxLen at hcap; omega) (fun a' c' h0 h1 h2 => by rw [h0 rfl]; exact .sl sz xs none (by decide) b off c' vs hok h1 (Nat.le_trans h2 hcap) hsz hcell hrep)

end Lp
