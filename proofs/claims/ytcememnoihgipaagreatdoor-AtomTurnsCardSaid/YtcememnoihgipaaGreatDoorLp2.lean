/-
  Part 2 of what the statement rests on: LpK, LpL, LpM. No condition.
-/
import Derived.Test.YtcememnoihgipaaGreatDoorLp1
import Derived.RangeFuncCalls
import Derived.OrdersIn

set_option linter.all false

/-! LpK -/

namespace Lp
open Go
def qe5 (P : Program) (f : FuncId) : Prop := ∃ fn, P.funcs[f]? = some fn ∧ (fn.name == "runtime.NumGoroutine") = false ∧ fn.body.isNone = false
def FnSpec (P : Program) (f : FuncId) (args : List PV) (objs : List Obj) (r : PV) (objs' : List Obj) : Prop :=
  qe5 P f ∧
  ∀ (w : World) (blk : Nat → Option Nat) (vs : List Value) (base : Nat → Prop), (glob.holds w.heap ∧ ∀ b, w.heap.size ≤ b → base b) →
    ObjsRel base (fun b => b < w.heap.size ∧ q0k objs blk b) objs blk w → RepL (RepT w (okL base objs blk) objs blk) args vs →
    Calls P f ⟨vs⟩ w fun e w' => ∃ v blk', e = .returned v ∧ ObjsRel base (fun b => b < w.heap.size ∧ q0k objs blk b) objs' blk' w' ∧
      RepT w' (okL base objs' blk') objs' blk' r v ∧ (∀ b, b < w.heap.size → q0k objs blk b → w'.heap[b]? = w.heap[b]?) ∧ w.heap.size ≤ w'.heap.size ∧ Sm w w'
def PV.shiftS (n : Nat) : PV → PV
  | .osl k ver => .osl (k + n) ver
  | .optr k ver i f => .optr (k + n) ver i f
  | .omp k ver => .omp (k + n) ver
  | p => p
def PV.shift (n : Nat) : PV → PV
  | .fn f a c => .fn f (a.map (.shiftS n)) (c.map (.shiftS n))
  | .tup cs => .tup (cs.map (.shiftS n))
  | .agg cs => .agg (cs.map (.shiftS n))
  | p => p.shiftS n
def PV.flat1 : PV → Bool
  | .int .. | .bool _ | .str _ | .nilp | .nilf | .nili | .nilm | .sl _ [] (some true) => true
  | _ => false
def PV.flat : PV → Bool
  | .tup cs => cs.all PV.flat1
  | p => p.flat1
def NoRefs (objs : List Obj) : Prop := ∀ o ∈ objs, ∀ x ∈ o.xs, ∀ p ∈ x.cells, p.ref = false
def lend (objs : List Obj) (p : PV) (p' : PV) : Prop :=
  match p with
  | .osl k ver => ∃ o, objs[k]? = some o ∧ o.live = true ∧ o.ver = ver ∧ (∀ x ∈ o.xs, ∀ c ∈ x.cells, c.ref = false) ∧ p' = .sl o.sz o.xs none
  | .optr k ver i f => ∃ o e, objs[k]? = some o ∧ o.live = true ∧ o.ver = ver ∧ o.xs[i]? = some e ∧ f = 0 ∧ (∀ c ∈ e.cells, c.ref = false) ∧ p' = .addr e
  | p => p.pure = true ∧ p' = p
def lendL (objs : List Obj) : List PV → List PV → Prop
  | [], [] => True
  | p :: ps, q :: qs => lend objs p q ∧ lendL objs ps qs
  | _, _ => False
def PV.atom : PV → Bool
  | .int .. | .bool _ | .str _ => true
  | _ => false
def FnUse (P : Program) (f : FuncId) (args : List PV) (objs : List Obj) (r : PV) (objs' : List Obj) : Prop :=
  qe5 P f ∧ objs'.length = objs.length ∧
  ∀ (base prot : Nat → Prop) (w0 : Wz) (tmps : List PV) (blk : Nat → Option Nat) (a : Act) (w : World) (vs : List Value), Rel base prot w0 ⟨tmps, objs⟩ blk a w →
    RepL (RepT w (okL base objs blk) objs blk) args vs →
    Calls P f ⟨vs⟩ w fun e w' => ∃ v blk', e = .returned v ∧ Rel base prot w0 ⟨tmps, objs'⟩ blk' a w' ∧ RepT w' (okL base objs' blk') objs' blk' r v
inductive CallR (P : Program) (f : FuncId) (args : List PV) (objs : List Obj) : PV → List Obj → Nat → Prop
  | pure (r : PV) (hargs : args.all PV.pure = true) (h : FnSpec P f args [] r []) : CallR P f args objs r objs 0
  | made (r : PV) (o : Obj) (hargs : args.all PV.pure = true) (hnew : NoRefs [o]) (h : FnSpec P f args [] r [o]) : CallR P f args objs (r.shift objs.length) (objs ++ [o]) 2
  | used (r : PV) (objs' : List Obj) (h : FnUse P f args objs r objs') : CallR P f args objs r objs' 2
  | madeL (ver : Nat) (o : Obj) (args' : List PV) (hargs : lendL objs args args') (hnew : ∀ x ∈ o.xs, ∀ p ∈ x.cells, p.atom = true) (h : FnSpec P f args' [] (.osl 0 ver) [o]) : CallR P f args objs (.osl objs.length ver) (objs ++ [o]) 2
  | madeT (ver : Nat) (q : PV) (o : Obj) (args' : List PV) (hargs : lendL objs args args') (hnew : ∀ x ∈ o.xs, ∀ p ∈ x.cells, p.atom = true) (hq : q.atom = true) (h : FnSpec P f args' [] (.tup [.osl 0 ver, q]) [o]) : CallR P f args objs (.tup [.osl objs.length ver, q]) (objs ++ [o]) 2
  | lent (r : PV) (args' : List PV) (hargs : lendL objs args args') (hr : r.flat = true) (h : FnSpec P f args' [] r []) : CallR P f args objs r objs 1
def callR (P : Program) (f : PV) (args : List PV) (objs : List Obj) (K : KT) : Prop :=
  match f with
  | .fn g first cap => ∃ r objs' t, CallR P g (first ++ args ++ cap) objs r objs' t ∧ K r objs' t
  | _ => False
def q19 (D : TypeId → TInfo) (b : Builtin) (ts : List TypeId) (args : List Operand) (ev : Operand → PV) (objs : List Obj) (K : KT) : Prop :=
  match b, ts, args with
  | .len, [t], [x] => lenR D t (ev x) objs K
  | .append, [t, u], [s, x] => q06 D t u (ev s) (ev x) objs K
  | .max, _, xs => q07 true (xs.map ev) fun r => K r objs 0
  | .min, _, xs => q07 false (xs.map ev) fun r => K r objs 0
  | _, _, _ => False
def opR (P : Program) (D : TypeId → TInfo) (own : Bool) (ev : Operand → PV) (objs : List Obj) (op : Op) (K : KT) : Prop :=
  match op with
  | .move x | .assign x => K (ev x) objs 0
  | .pick c x y => pickR (ev c) (ev x) (ev y) objs K
  | .alloc t => q0b t (D t) objs K
  | .box t x => boxR t (D t) (ev x) objs K
  | .build t ps => q1m D t (ps.toList.map fun x => (x.1, ev x.2)) objs K
  | .buildSlice t n ps => q00 D own t n (ps.toList.map fun x => (x.1, ev x.2)) objs K
  | .load t x => loadR (D t) (ev x) objs K
  | .store t x y => q0a (D t) (ev x) (ev y) objs K
  | .nilCheck x => q0s (ev x) objs K
  | .binOp b t x y _ => binR P (D t) t b (ev x) (ev y) fun r => K r objs 0
  | .unOp u _ x => unR u (ev x) fun r => K r objs 0
  | .convert s t x => convO D s t (ev x) objs K
  | .makeFunc (.func f) first cap => q04 f (first.toList.map ev) (cap.toList.map ev) objs K
  | .makeSlice t l c => q02 D t (ev l) (ev c) objs K
  | .slice t x lo hi none => q21 D t (ev x) (lo.map ev) (hi.map ev) objs K
  | .fieldAddr t x f => q0i D t (ev x) f objs K
  | .field t x f => q4z D t (ev x) f objs K
  | .indexAddr t x i => q0h D t (ev x) (ev i) objs K
  | .index t x i => q3a D t (ev x) (ev i) objs K
  | .extract x i => q16 (ev x) i objs K
  | .call { callee := .builtin b, args, argTypes } => q19 D b argTypes.toList args.toList ev objs K
  | .call { callee := .value f, args, .. } => callR P (ev f) (args.toList.map ev) objs K
  | .makeMap t none => q31 D t objs K
  | .lookup t x ix ok => q4t D t (ev x) (ev ix) ok objs K
  | .mapUpdate t x k v => q1n D t (ev x) (ev k) (ev v) objs K
  | .insert t x k v => q1n D t (ev x) (ev k) (ev v) objs K
  | _ => False
section
variable {P : Program} {base prot : Nat → Prop} {w0 : Wz} {S : St} {blk : Nat → Option Nat} {a : Act} {w : World} {D : TypeId → TInfo}
theorem qku {f : FuncId} {args : Array Value} {R : Ending → World → Prop} (h : Calls P f args w R) (l : Option Nat) : CallsIn (fen l) 0 P f args w R := by
  have h' : CallsIn Fence.wide 0 P f args w R := callsIn_wide.2 h
  cases l with
  | none => exact h'
  | some l => exact h'.inRound l
theorem Rep.anyOk {ok : Nat → Prop} {p : PV} {v : Value} (h : Rep w ok p v) {ok' : Nat → Prop} (hok : ∀ b, b < w.heap.size → ok b → ok' b) : Rep w ok' p v :=
  h.mono (Nat.le_refl _) hok (fun _ _ _ h => h)
theorem qe6 {w' : World} {ok ok' : Nat → Prop} {p : PV} {v : Value} (hp : p.flat1 = true) (h : Rep w ok p v) : Rep w' ok' p v := by
  cases h with
  | sl sz xs q hq =>
    exfalso
    unfold PV.flat1 at hp
    split at hp <;> first | (cases hp; done) | skip
    all_goals first | (rename_i e; cases e; done) | (rename_i e; injection e with _ _ e3; exact hq e3) | skip
  | slz sz q hq =>
    exfalso
    unfold PV.flat1 at hp
    split at hp <;> first | (cases hp; done) | skip
    all_goals first | (rename_i e; cases e; done) | (rename_i e; injection e with _ _ e3; exact hq e3) | skip
  | slnil sz q hq => exact .slnil sz q hq
  | int => exact .int _ _
  | bool => exact .bool _
  | str => exact .str _
  | nilp => exact .nilp
  | nilf => exact .nilf
  | nili => exact .nili
  | nilm => exact .nilm
  | _ => simp [PV.flat1] at hp
theorem qe7 {p : PV} (h : p.flat1 = true) : p.ref = false := by
  cases p <;> first | rfl | (simp [PV.flat1] at h)
theorem qn7 {ok ok' : Nat → Prop} {objs objs' : List Obj} {blk blk' : Nat → Option Nat} {w' : World} {r : PV} {v : Value} (hr : r.flat = true) (h : RepT w ok objs blk r v) : RepT w' ok' objs' blk' r v := by
  cases r with
  | tup cs =>
    obtain ⟨vs, rfl, h1, h2⟩ := h
    refine ⟨vs, rfl, h1, fun i p u hp hu => ?_⟩
    have hf := List.all_eq_true.1 hr p (List.mem_of_getElem? hp)
    exact .of_rep (qe6 hf ((h2 i p u hp hu).rep (qe7 hf)))
  | fn f a c => simp [PV.flat, PV.flat1] at hr
  | agg cs => simp [PV.flat, PV.flat1] at hr
  | _ =>
    simp only [PV.flat] at hr
    exact .of_rep (qe6 hr (RepS.rep (w := w) (ok := ok) (objs := objs) (blk := blk) h (qe7 hr)))
theorem qoy (objs : List Obj) (o : Obj) : (objs ++ [o])[objs.length]? = some o := by simp
def q5u (base : Nat → Prop) (S : St) (blk : Nat → Option Nat) (w : World) (b : Nat) : Prop := okL base S.objs blk b ∨ w.heap.size ≤ b
theorem q0t (blk : Nat → Option Nat) (b : Nat) : q0k [] blk b := fun k o h => by simp at h
theorem qfu {objs' : List Obj} {blk' : Nat → Option Nat} (R : Rel base prot w0 S blk a w) {b : Nat} (h : okL (q5u base S blk w) objs' blk' b) : okL base S.objs blk b := by
  rcases h.1 with h | h
  · exact h
  · refine ⟨R.bs b (Nat.le_trans R.gr h), fun k o h1 h2 h3 => ?_⟩
    have := qcg R.objs h1 h2 h3
    omega
theorem qhj {o : Obj} {blk' : Nat → Option Nat} (R : Rel base prot w0 S blk a w) (ho : o.live = true) {b : Nat} (h : okL (q5u base S blk w) [o] blk' b) :
    okL base (S.objs ++ [o]) (q0g blk S.objs.length (blk' 0)) b := by
  have h0 := qfu R h
  refine ⟨h0.1, fun k ob h1 h2 => ?_⟩
  rcases q30 h1 with ⟨hk, h1⟩ | ⟨rfl, rfl⟩
  · unfold q0g; rw [if_neg (by omega)]; exact h0.2 k ob h1 h2
  · unfold q0g; rw [if_pos rfl]; exact h.2 0 ob rfl h2
theorem Rel.made {w' : World} {blk' : Nat → Option Nat} {o : Obj} (R : Rel base prot w0 S blk a w) (hg : Grew w w') (hnew : NoRefs [o])
    (h : ObjsRel (q5u base S blk w) (fun b => b < w.heap.size ∧ q0k [] blk b) [o] blk' w') :
    Rel base prot w0 ⟨S.tmps, S.objs ++ [o]⟩ (q0g blk S.objs.length (blk' 0)) a w' := by
  cases ho : o.live with
  | false =>
    have hb : ∀ k, k < S.objs.length → q0g blk S.objs.length (blk' 0) k = blk k := fun k hk => by unfold q0g; rw [if_neg (by omega)]
    have ho' : ObjsTo w w' S.objs (S.objs ++ [o]) blk (q0g blk S.objs.length (blk' 0)) := by
      intro k ob hk
      have hkl := (List.getElem?_eq_some_iff.1 hk).1
      exact ⟨ob, by rw [List.getElem?_append, if_pos hkl]; exact hk, Nat.le_refl _, fun hl _ => ⟨hl, hb k hkl, rfl, rfl, fun _ => rfl, fun g c _ hc => ⟨c, hg.2.1 g _ hc, rfl⟩⟩⟩
    have hget : ∀ (k : Nat) (ob : Obj), (S.objs ++ [o])[k]? = some ob → ob.live = true → k < S.objs.length ∧ S.objs[k]? = some ob := by
      intro k ob h1 h2
      rcases q30 h1 with h1 | ⟨_, rfl⟩
      · exact h1
      · rw [ho] at h2; cases h2
    have hok : ∀ b, okL base S.objs blk b → okL base (S.objs ++ [o]) (q0g blk S.objs.length (blk' 0)) b := fun b hb0 => ⟨hb0.1, fun k ob h1 h2 => by
      obtain ⟨hk, h1⟩ := hget k ob h1 h2
      rw [hb k hk]; exact hb0.2 k ob h1 h2⟩
    refine R.change hg.1 (fun b x _ h => hg.2.1 b x h) (fun b _ h => hok b h) ho' ⟨?_, ?_, ?_⟩ hg.2.2
    · intro k ob h1 h2
      obtain ⟨hk, h1⟩ := hget k ob h1 h2
      have hh := R.objs.ob k ob h1 h2
      unfold ObjRep at hh ⊢
      rw [hb k hk]
      cases hbk : blk k with
      | none => rw [hbk] at hh; exact hh
      | some g =>
        rw [hbk] at hh
        obtain ⟨c', x1, x2, x3⟩ := hh
        refine ⟨c', hg.2.1 g _ x1, x2, fun i x hx => ⟨(x3 i x hx).1, fun j p hp => ?_⟩⟩
        obtain ⟨v, y1, y2⟩ := (x3 i x hx).2 j p hp
        exact ⟨v, y1, y2.mono hg.1 (fun b _ h => hok b h) (fun b x _ h => hg.2.1 b x h) ho'⟩
    · intro k k' ob ob' g hne h1 h2 h3 h4 h5 h6
      obtain ⟨hk, h1⟩ := hget k ob h1 h2
      obtain ⟨hk', h3⟩ := hget k' ob' h3 h4
      rw [hb k hk] at h5; rw [hb k' hk'] at h6
      exact R.objs.dis k k' ob ob' g hne h1 h2 h3 h4 h5 h6
    · intro k ob g h1 h2 h3 h4
      obtain ⟨hk, h1⟩ := hget k ob h1 h2
      rw [hb k hk] at h3
      exact R.objs.np k ob g h1 h2 h3 h4
  | true =>
    refine R.addObj hg (fun g hgb => ?_) fun hr => ?_
    · rcases Nat.lt_or_ge g w.heap.size with hlt | hge
      · exact absurd ⟨hlt, q0t blk g⟩ (h.np 0 o g rfl ho hgb)
      · exact hge
    · have hh := h.ob 0 o rfl ho
      unfold ObjRep at hh ⊢
      have hb' : q0g blk S.objs.length (blk' 0) S.objs.length = blk' 0 := by unfold q0g; rw [if_pos rfl]
      rw [hb']
      cases hb0 : blk' 0 with
      | none => rw [hb0] at hh; exact hh
      | some g =>
        rw [hb0] at hh
        obtain ⟨c, x1, x2, x3⟩ := hh
        refine ⟨c, x1, x2, fun i x hx => ⟨(x3 i x hx).1, fun j p hp => ?_⟩⟩
        obtain ⟨v, y1, y2⟩ := (x3 i x hx).2 j p hp
        refine ⟨v, y1, .of_rep ((y2.rep (hnew o (by simp) x (List.mem_of_getElem? hx) p (List.mem_of_getElem? hp))).anyOk fun b _ hbk => ?_)⟩
        rw [← hb0]
        exact qhj R ho hbk
theorem q6j (base prot : Nat → Prop) (blk : Nat → Option Nat) (w : World) : ObjsRel base prot [] blk w :=
  ⟨fun k o h => by simp at h, fun k k' o o' g _ h => by simp at h, fun k o g h => by simp at h⟩
theorem qe8 {args : List PV} {vs : List Value} (h : RepL (RepT w (okL base S.objs blk) S.objs blk) args vs) (hp : args.all PV.pure = true) :
    RepL (RepT w (okL (q5u base S blk w) [] blk) [] blk) args vs :=
  ⟨h.1, fun i p v a b => .of_rep (((h.2 i p v a b).rep (List.all_eq_true.1 hp p (List.mem_of_getElem? a))).anyOk fun _ _ hb => ⟨.inl hb, q0t _ _⟩)⟩
theorem q2c {w' : World} (h : ∀ b, b < w.heap.size → q0k [] blk b → w'.heap[b]? = w.heap[b]?) (hs : w.heap.size ≤ w'.heap.size ∧ Sm w w') : Grew w w' :=
  ⟨hs.1, fun b x hx => by rw [h b (Array.getElem?_eq_some_iff.1 hx).1 (q0t _ _)]; exact hx, hs.2⟩
theorem qn8 (R : Rel base prot w0 S blk a w) {p p' : PV} {v : Value} (h : lend S.objs p p') (hr : RepT w (okL base S.objs blk) S.objs blk p v) : Rep w (fun _ => True) p' v := by
  cases p with
  | osl k ver =>
    obtain ⟨o, h1, h2, h3, h4, rfl⟩ := h
    have hh := hr.osl h1 h2 h3
    unfold Hdr at hh
    cases hb : blk k with
    | none =>
      rw [hb] at hh
      rw [hh.1, hh.2]
      exact .slnil _ _ (by simp)
    | some g =>
      rw [hb] at hh
      obtain ⟨cap, c, hv, x1, x2, x3, x4⟩ := hh
      obtain ⟨c', y1, y2, y3⟩ := q5c R h1 h2 hb (hr.osl_ty h1 h2 h3)
      rw [x1] at y1; cases y1
      rw [hv]
      refine .sl o.sz o.xs none (by simp) g 0 cap (fun i j => (c[i * o.sz + j]?).getD undef) (fun _ => ⟨trivial, (Array.getElem?_eq_some_iff.1 x1).1⟩) x2 x3 (fun i x hx => (y3 i x hx).1) ?_ ?_
      · intro i x j p hx hp
        obtain ⟨u, u1, _⟩ := (y3 i x hx).2 j p hp
        simp [World.cell?, x1, u1]
      · intro i x j p hx hp
        obtain ⟨u, u1, u2⟩ := (y3 i x hx).2 j p hp
        rw [u1, Option.getD_some]
        exact (u2.rep (h4 x (List.mem_of_getElem? hx) p (List.mem_of_getElem? hp))).anyOk fun _ _ _ => trivial
  | optr k ver i f =>
    obtain ⟨o, e, h1, h2, h3, h4, rfl, h5, rfl⟩ := h
    obtain ⟨g, hb, hv, hty⟩ := hr.optr h1 h2 h3
    obtain ⟨y1, y2⟩ := qkg R.objs h1 h2 h4 hb hty
    obtain ⟨c, x1, _⟩ := q5c R h1 h2 hb hty
    rw [hv]
    refine .ofAt ⟨trivial, (Array.getElem?_eq_some_iff.1 x1).1⟩ fun j p hp => ?_
    obtain ⟨u, u1, u2⟩ := y2 j p hp
    exact ⟨u, u1, (u2.rep (h5 p (List.mem_of_getElem? hp))).anyOk fun _ _ _ => trivial⟩
  | _ =>
    obtain ⟨h1, rfl⟩ := h
    exact (hr.rep h1).anyOk fun _ _ _ => trivial
theorem q70 (R : Rel base prot w0 S blk a w) : ∀ {ps qs : List PV} {vs : List Value}, lendL S.objs ps qs → RepL (RepT w (okL base S.objs blk) S.objs blk) ps vs → RepL (Rep w (fun _ => True)) qs vs
  | [], [], vs, _, h => ⟨h.1, fun i p v hp => by simp at hp⟩
  | p :: ps, q :: qs, vs, h, hr => by
    obtain ⟨h1, h2⟩ := h
    match vs, hr with
    | [], hr => exact absurd hr.1 (by simp)
    | v :: vs, hr =>
      have ih := q70 R h2 ⟨by simpa using hr.1, fun i p u a b => hr.2 (i + 1) p u (by simpa using a) (by simpa using b)⟩
      refine ⟨by simpa using ih.1, fun i p' u hp hu => ?_⟩
      cases i with
      | zero => simp at hp hu; subst hp; subst hu; exact qn8 R h1 (hr.2 0 p v rfl rfl)
      | succ i => exact ih.2 i p' u (by simpa using hp) (by simpa using hu)
theorem RepS.noObjs {w' : World} {ok : Nat → Prop} {blk' : Nat → Option Nat} {p : PV} {v : Value} (h : RepS w' ok [] blk' p v) : Rep w' ok p v := by
  cases p with
  | osl k ver => obtain ⟨_, o, h, _⟩ := h; simp at h
  | optr k ver i f => obtain ⟨_, o, h, _⟩ := h; simp at h
  | omp k ver => obtain ⟨_, o, h, _⟩ := h; simp at h
  | _ => exact h
def PV.mapS (f : PV → PV) : PV → PV
  | .fn g a c => .fn g (a.map f) (c.map f)
  | .tup cs => .tup (cs.map f)
  | .agg cs => .agg (cs.map f)
  | p => f p
theorem RepT.mapS {w' : World} {ok ok' : Nat → Prop} {objs objs' : List Obj} {blk blk' : Nat → Option Nat} {p : PV} {v : Value} {f : PV → PV} (h : RepT w' ok objs blk p v)
    (hf : ∀ q u, RepS w' ok objs blk q u → RepS w' ok' objs' blk' (f q) u) :
    RepT w' ok' objs' blk' (p.mapS f) v := by
  have hl : ∀ cs vs, RepL (RepS w' ok objs blk) cs vs → RepL (RepS w' ok' objs' blk') (cs.map f) vs := by
    intro cs vs h
    refine ⟨by simpa using h.1, fun i p v hp hv => ?_⟩
    rw [List.getElem?_map] at hp
    cases hc : cs[i]? with
    | none => rw [hc] at hp; simp at hp
    | some q => rw [hc] at hp; simp at hp; subst hp; exact hf q v (h.2 i q v hc hv)
  cases p with
  | fn g a c => obtain ⟨va, vc, rfl, h1, h2⟩ := h; exact ⟨va, vc, rfl, hl _ _ h1, hl _ _ h2⟩
  | tup cs => obtain ⟨vs, rfl, h1⟩ := h; exact ⟨vs, rfl, hl _ _ h1⟩
  | agg cs => obtain ⟨vs, rfl, h1⟩ := h; exact ⟨vs, rfl, hl _ _ h1⟩
  | _ => exact .of_repS (hf _ _ h)
theorem qn9 (n : Nat) (p : PV) : p.shift n = p.mapS (.shiftS n) := by
  cases p <;> rfl
theorem id_eq (p : PV) : p = p.mapS id := by
  cases p <;> simp [PV.mapS]
theorem q7v {p : PV} (h : p.atom = true) : p.ref = false := by cases p <;> first | rfl | (simp [PV.atom] at h)
theorem qhk {w' : World} {ok ok' : Nat → Prop} {objs objs' : List Obj} {blk blk' : Nat → Option Nat} {p : PV} {v : Value} (hp : p.atom = true) (h : RepS w ok objs blk p v) : RepS w' ok' objs' blk' p v := by
  have h' := h.rep (q7v hp)
  refine .of_rep ?_
  cases p <;> simp [PV.atom] at hp <;> cases h' <;> constructor
theorem qbr {base' base'' prot' : Nat → Prop} {o : Obj} {blk' : Nat → Option Nat} {w' : World} (h : ObjsRel base' prot' [o] blk' w') (ho : ∀ x ∈ o.xs, ∀ p ∈ x.cells, p.atom = true) : ObjsRel base'' prot' [o] blk' w' := by
  refine ⟨fun k ob h1 h2 => ?_, h.dis, h.np⟩
  have hh := h.ob k ob h1 h2
  have he : ob = o := by
    cases k with
    | zero => simp at h1; exact h1.symm
    | succ k => simp at h1
  subst he
  unfold ObjRep at hh ⊢
  cases hb : blk' k with
  | none => rw [hb] at hh; exact hh
  | some g =>
    rw [hb] at hh
    obtain ⟨c, x1, x2, x3⟩ := hh
    exact ⟨c, x1, x2, fun i x hx => ⟨(x3 i x hx).1, fun j p hp => let ⟨v, y1, y2⟩ := (x3 i x hx).2 j p hp; ⟨v, y1, qhk (ho x (List.mem_of_getElem? hx) p (List.mem_of_getElem? hp)) y2⟩⟩⟩
theorem qid {f : FuncId} {args : List PV} {vs : List Value} {r : PV} {objs' : List Obj} {t : Nat} (R : Rel base prot w0 S blk a w) (h : CallR P f args S.objs r objs' t)
    (hargs : RepL (RepT w (okL base S.objs blk) S.objs blk) args vs) :
    qe5 P f ∧ Calls P f ⟨vs⟩ w fun e w' => ∃ v blk', e = .returned v ∧ Rel base prot w0 ⟨S.tmps, objs'⟩ blk' a w' ∧ RepT w' (okL base objs' blk') objs' blk' r v := by
  cases h with
  | pure r hp h =>
    refine ⟨h.1, (h.2 w blk vs (q5u base S blk w) ⟨R.globOk, fun b hb => .inr hb⟩ (q6j _ _ _ _) (qe8 hargs hp)).mono fun e w' ⟨v, blk', h1, h2, h3, h4, h5⟩ => ?_⟩
    have hg := q2c h4 h5
    refine ⟨v, blk, h1, R.grew hg, ?_⟩
    rw [id_eq r]
    refine h3.mapS (f := id) fun q u hq => ?_
    have hq' := hq.noObjs
    refine .of_rep (hq'.mono (Nat.le_refl _) (fun b _ hb => ?_) (fun _ _ _ h => h))
    exact qfu R hb
  | made r o hp hnew h =>
    refine ⟨h.1, (h.2 w blk vs (q5u base S blk w) ⟨R.globOk, fun b hb => .inr hb⟩ (q6j _ _ _ _) (qe8 hargs hp)).mono fun e w' ⟨v, blk', h1, h2, h3, h4, h5⟩ => ?_⟩
    have hg := q2c h4 h5
    refine ⟨v, q0g blk S.objs.length (blk' 0), h1, R.made hg hnew h2, ?_⟩
    rw [qn9]
    refine h3.mapS fun q u hq => ?_
    have h0 : ∀ (k : Nat) (ob : Obj), [o][k]? = some ob → k = 0 ∧ ob = o := by
      intro k ob hk
      cases k with
      | zero => simp at hk; exact ⟨rfl, hk.symm⟩
      | succ k => simp at hk
    have hbl : q0g blk S.objs.length (blk' 0) S.objs.length = blk' 0 := by unfold q0g; rw [if_pos rfl]
    cases q with
    | osl k ver =>
      obtain ⟨ho, ob, g1, g2, g3⟩ := hq
      obtain ⟨rfl, rfl⟩ := h0 k ob g1
      refine ⟨ho, ob, by simp, g2, fun hl hv => ?_⟩
      obtain ⟨hM, this⟩ := g3 hl hv
      refine ⟨hM, ?_⟩
      unfold Hdr at this ⊢
      rw [Nat.zero_add, hbl]; exact this
    | optr k ver i f =>
      obtain ⟨ho, ob, g1, g2, g3⟩ := hq
      obtain ⟨rfl, rfl⟩ := h0 k ob g1
      refine ⟨ho, ob, by simp, g2, fun hl hv => ?_⟩
      obtain ⟨hM, g, e1, e2⟩ := g3 hl hv
      exact ⟨hM, g, by rw [Nat.zero_add, hbl]; exact e1, e2⟩
    | omp k ver =>
      obtain ⟨ho, ob, g1, g2, g3⟩ := hq
      obtain ⟨rfl, rfl⟩ := h0 k ob g1
      refine ⟨ho, ob, by simp, g2, fun hl hv => ?_⟩
      obtain ⟨hM, g, e1, e2⟩ := g3 hl hv
      exact ⟨hM, g, by rw [Nat.zero_add, hbl]; exact e1, e2⟩
    | _ =>
      have hq' : Rep w' _ _ u := hq
      cases hl : o.live with
      | true => exact .of_rep (hq'.mono (Nat.le_refl _) (fun b _ hb => qhj R hl hb) (fun _ _ _ h => h))
      | false =>
        refine .of_rep (hq'.mono (Nat.le_refl _) (fun b _ hb => ?_) (fun _ _ _ h => h))
        have h0 := qfu R hb
        refine ⟨h0.1, fun k ob m1 m2 => ?_⟩
        rcases q30 m1 with ⟨hk, m3⟩ | ⟨_, eo⟩
        · unfold q0g; rw [if_neg (by omega)]; exact h0.2 k ob m3 m2
        · rw [eo, hl] at m2; cases m2
  | used r objs' h => exact ⟨h.1, h.2.2 base prot w0 S.tmps blk a w vs R hargs⟩
  | madeL ver o args' hl hnew h =>
    have ha := q70 R hl hargs
    refine ⟨h.1, (h.2 w blk vs (fun _ => True) ⟨R.globOk, fun _ _ => trivial⟩ (q6j _ _ _ _) ⟨ha.1, fun i p v a b => .of_rep ((ha.2 i p v a b).anyOk fun _ _ _ => ⟨trivial, q0t _ _⟩)⟩).mono fun e w' ⟨v, blk', h1, h2, h3, h4, h5⟩ => ?_⟩
    have hg := q2c h4 h5
    have hn : NoRefs [o] := fun ob hob x hx p hp => by
      have : ob = o := by simpa using hob
      subst this
      exact q7v (hnew x hx p hp)
    refine ⟨v, q0g blk S.objs.length (blk' 0), h1, R.made hg hn (qbr h2 hnew), ?_⟩
    have hbl : q0g blk S.objs.length (blk' 0) S.objs.length = blk' 0 := by unfold q0g; rw [if_pos rfl]
    obtain ⟨ho, ob, g1, g2, g3⟩ := h3
    have he : ob = o := by simpa using g1.symm
    subst he
    refine ⟨ho, ob, by simp, g2, fun hl hv => ?_⟩
    obtain ⟨hM, this⟩ := g3 hl hv
    refine ⟨hM, ?_⟩
    unfold Hdr at this ⊢
    rw [hbl]; exact this
  | madeT ver q o args' hl hnew hq h =>
    have ha := q70 R hl hargs
    refine ⟨h.1, (h.2 w blk vs (fun _ => True) ⟨R.globOk, fun _ _ => trivial⟩ (q6j _ _ _ _) ⟨ha.1, fun i p v a b => .of_rep ((ha.2 i p v a b).anyOk fun _ _ _ => ⟨trivial, q0t _ _⟩)⟩).mono fun e w' ⟨v, blk', h1, h2, h3, h4, h5⟩ => ?_⟩
    have hg := q2c h4 h5
    have hn : NoRefs [o] := fun ob hob x hx p hp => by
      have : ob = o := by simpa using hob
      subst this
      exact q7v (hnew x hx p hp)
    refine ⟨v, q0g blk S.objs.length (blk' 0), h1, R.made hg hn (qbr h2 hnew), ?_⟩
    have hbl : q0g blk S.objs.length (blk' 0) S.objs.length = blk' 0 := by unfold q0g; rw [if_pos rfl]
    obtain ⟨us, rfl, h3⟩ := h3
    refine ⟨us, rfl, h3.1, fun i p u hp hu => ?_⟩
    match i with
    | 0 =>
      cases hp
      obtain ⟨ho, ob, g1, g2, g3⟩ := h3.2 0 _ u rfl hu
      have he : ob = o := by simpa using g1.symm
      subst he
      refine ⟨ho, ob, by simp, g2, fun hl hv => ?_⟩
      obtain ⟨hM, this⟩ := g3 hl hv
      refine ⟨hM, ?_⟩
      unfold Hdr at this ⊢
      rw [hbl]; exact this
    | 1 =>
      cases hp
      exact qhk hq (h3.2 1 _ u rfl hu)
    | i + 2 => simp at hp
  | lent r args' hl hr h =>
    have ha := q70 R hl hargs
    refine ⟨h.1, (h.2 w blk vs (fun _ => True) ⟨R.globOk, fun _ _ => trivial⟩ (q6j _ _ _ _) ⟨ha.1, fun i p v a b => .of_rep ((ha.2 i p v a b).anyOk fun _ _ _ => ⟨trivial, q0t _ _⟩)⟩).mono fun e w' ⟨v, blk', h1, h2, h3, h4, h5⟩ => ?_⟩
    exact ⟨v, blk, h1, R.grew (q2c h4 h5), qn7 hr h3⟩
theorem qkv {f : FuncId} {args : List PV} {objs objs' : List Obj} {r : PV} {t : Nat} (h : CallR P f args objs r objs' t) : NewLt objs objs' := by
  cases h with
  | pure _ _ _ => exact .same rfl
  | lent _ _ _ _ _ => exact .same rfl
  | used _ _ h => exact .same h.2.1
  | madeL ver o _ _ hnew _ =>
    refine .of fun i x hx j p hp => ?_
    have := hnew x (List.mem_of_getElem? hx) p (List.mem_of_getElem? hp)
    cases p <;> first | rfl | (simp [PV.atom] at this)
  | madeT ver q o _ _ hnew _ _ =>
    refine .of fun i x hx j p hp => ?_
    have := hnew x (List.mem_of_getElem? hx) p (List.mem_of_getElem? hp)
    cases p <;> first | rfl | (simp [PV.atom] at this)
  | made r o _ hnew _ =>
    refine .of fun i x hx j p hp => ?_
    have := hnew o (by simp) x (List.mem_of_getElem? hx) p (List.mem_of_getElem? hp)
    cases p <;> first | rfl | (simp [PV.ref] at this)
theorem qe9 {own : Bool} {o : Oper} {K : KT} {next : Act → World → Prop} {Q : Exit → Act → World → Prop} (l : Option Nat) (hD : ∀ t, TOk P t (D t)) (R : Rel base prot w0 S blk a w)
    (h : opR P D own S.ev S.objs o.op K)
    (hn : ∀ r objs' t v w' blk', K r objs' t → Rel base prot w0 ⟨S.tmps, objs'⟩ blk' a w' → RepT w' (okL base objs' blk') objs' blk' r v → NewLt S.objs objs' → next (a.put o.dst v) w') :
    o.wpIn (fen l) 0 P a w next Q := by
  have fin : (∀ c, o.op ≠ .defer c) → Out P base prot w0 S o a w K → o.wpIn (fen l) 0 P a w next Q := by
    rintro hd ⟨v, w', r, objs', t, blk', h1, h2, h3, h4, h5⟩
    exact qfp hd h1 (hn r objs' t v w' blk' h2 h3 h4 h5)
  unfold opR at h
  split at h <;> rename_i ho
  · exact fin (by rw [ho]; simp) (qhg (.inl ho) R h)
  · exact fin (by rw [ho]; simp) (qhg (.inr ho) R h)
  · exact fin (by rw [ho]; simp) (qn5 ho R h)
  · exact fin (by rw [ho]; simp) (qkj ho hD R h)
  · exact fin (by rw [ho]; simp) (qor ho hD R h)
  · exact fin (by rw [ho]; simp) (qkp ho hD R h)
  · exact fin (by rw [ho]; simp) (qb8 ho hD R h)
  · exact fin (by rw [ho]; simp) (qn4 ho hD R h)
  · exact fin (by rw [ho]; simp) (qkk ho hD R h)
  · exact fin (by rw [ho]; simp) (qe1 ho R h)
  · exact fin (by rw [ho]; simp) (qov ho hD R h)
  · exact fin (by rw [ho]; simp) (qw3 ho R h)
  · exact fin (by rw [ho]; simp) (qn6 ho hD R h)
  · exact fin (by rw [ho]; simp) (qe2 ho R h)
  · exact fin (by rw [ho]; simp) (qch ho hD R h)
  · exact fin (by rw [ho]; simp) (qko ho hD R h)
  · exact fin (by rw [ho]; simp) (qce ho hD R h)
  · exact fin (by rw [ho]; simp) (qkh ho hD R h)
  · exact fin (by rw [ho]; simp) (qcf ho hD R h)
  · exact fin (by rw [ho]; simp) (qki ho hD R h)
  · exact fin (by rw [ho]; simp) (qfr ho R h)
  · rename_i b args argTypes
    refine fin (by rw [ho]; simp) ?_
    unfold q19 at h
    split at h
    · rename_i t x e1 e2
      have e1' : argTypes = #[t] := by apply Array.ext'; simpa using e1
      have e2' : args = #[x] := by apply Array.ext'; simpa using e2
      subst e1'; subst e2'
      exact qoq ho hD R h
    · rename_i t u s x e1 e2
      have e1' : argTypes = #[t, u] := by apply Array.ext'; simpa using e1
      have e2' : args = #[s, x] := by apply Array.ext'; simpa using e2
      subst e1'; subst e2'
      exact qi9 ho hD R h
    · exact qbo (isMax := true) ho R h
    · exact qbo (isMax := false) ho R h
    · exact h.elim
  · rename_i f args argTypes
    unfold callR at h
    split at h
    · rename_i g first cap e
      obtain ⟨r, objs', t, hc, hK⟩ := h
      have hf := R.ev f
      rw [e] at hf
      obtain ⟨va, vc, hv, r1, r2⟩ := hf
      have hargs : RepL (RepT w (okL base S.objs blk) S.objs blk) (first ++ args.toList.map S.ev ++ cap) (va ++ args.toList.map a.eval ++ vc) := by
        have app : ∀ {ps qs : List PV} {us ws : List Value} {Rr : PV → Value → Prop}, RepL Rr ps us → RepL Rr qs ws → RepL Rr (ps ++ qs) (us ++ ws) := by
          intro ps qs us ws Rr h1 h2
          refine ⟨by simp [h1.1, h2.1], fun i p v hp hv => ?_⟩
          rw [List.getElem?_append] at hp hv
          by_cases hi : i < ps.length
          · rw [if_pos hi] at hp; rw [if_pos (by rw [← h1.1]; exact hi)] at hv; exact h1.2 _ _ _ hp hv
          · rw [if_neg hi] at hp; rw [if_neg (by rw [← h1.1]; exact hi)] at hv; rw [← h1.1] at hv; exact h2.2 _ _ _ hp hv
        exact app (app (r1.mono fun _ _ h => .of_repS h) (q95 _ fun x _ => R.ev x)) (r2.mono fun _ _ h => .of_repS h)
      obtain ⟨⟨fn, hfn, hname, hbody⟩, hcalls⟩ := qid R hc hargs
      refine ⟨fun _ _ => trivial, ?_⟩
      rw [Oper.semAt_eq _ _ _ (by rw [ho]; simp)]
      have hrun : (execOp a.eval o).run P w = .ok (.enter g ⟨va ++ args.toList.map a.eval ++ vc⟩) w := by
        have e1 : (Array.mk va) ++ args.map a.eval ++ (Array.mk vc) = Array.mk (va ++ args.toList.map a.eval ++ vc) := by apply Array.ext'; simp
        simp only [execOp, ho, resolve, hv, Deferred.ofValue, Sem.run_bind, Sem.run_pure, Result.andThen_ok, invoke, callFunc, run_program, hfn, hname, hbody, Bool.false_eq_true, if_false]
        rw [e1]
      rw [hrun]
      refine ⟨(fun h => by cases h), ?_⟩
      refine CallsIn.mono (qku hcalls l) fun e w' ⟨v, blk', h1, h2, h3⟩ => ?_
      subst h1
      exact hn r objs' t v w' blk' hK h2 h3 (qkv hc)
    · exact h.elim
  · exact fin (by rw [ho]; simp) (qft ho R h)
  · exact fin (by rw [ho]; simp) (qic ho hD R h)
  · exact fin (by rw [ho]; simp) (q6z (.inl ho) hD R h)
  · exact fin (by rw [ho]; simp) (q6z (.inr ho) hD R h)
  · exact h.elim
theorem q96 {own : Bool} {o : Oper} {K : KT} {next : Act → World → Prop} {Q : Exit → Act → World → Prop} (l : Option Nat) (hD : ∀ t, TOk P t (D t)) (R : Rel base prot w0 S blk a w)
    (h : opR P D own S.ev S.objs o.op K)
    (hn : ∀ r objs' t v w' blk', K r objs' t → Rel base prot w0 ⟨S.tmps, objs'⟩ blk' a w' → RepT w' (okL base objs' blk') objs' blk' r v → next (a.put o.dst v) w') :
    o.wpIn (fen l) 0 P a w next Q := qe9 l hD R h fun r objs' t v w' blk' h1 h2 h3 _ => hn r objs' t v w' blk' h1 h2 h3
end
end Lp

/-! LpL -/

namespace Lp
open Go
def co (t : Nat) : Nat := if t ≤ 2 then t else if t % 2 = 0 then 1 else 2
theorem co_rd (k : Nat) : co (4 + 2 * k) = 1 := by unfold co; rw [if_neg (by omega), if_pos (by omega)]
theorem co_wr (k : Nat) : co (5 + 2 * k) = 2 := by unfold co; rw [if_neg (by omega), if_neg (by omega)]
theorem qkw {t : Nat} (h : t ≠ 0) : co t ≠ 0 := by unfold co; split <;> (try split) <;> omega
def Mk (mk : Nat → PV) : Prop := mk = (fun n => .osl n 1) ∨ mk = (fun n => .optr n 1 0 0) ∨ mk = (fun n => .omp n 1)
structure Fine (A : List Obj → KT → Prop) (objs : List Obj) (r : PV) (o : List Obj) (t : Nat) : Prop where
  rd : ∀ k, t = 4 + 2 * k → o = objs ∧ k < objs.length ∧ ∀ (objs2 : List Obj) (K' : KT), objs2[k]? = objs[k]? → K' r objs2 t → A objs2 K'
  wr : ∀ k, t = 5 + 2 * k → (∃ o1, k < objs.length ∧ o = objs.set k o1 ∧ ∀ (objs2 : List Obj) (K' : KT), objs2[k]? = objs[k]? → K' r (objs2.set k o1) t → A objs2 K') ∨
    (k = objs.length ∧ ∃ o1 mk, Mk mk ∧ r = mk k ∧ o = objs ++ [o1] ∧ o1.live = true ∧ o1.ver = 1 ∧ ∀ (objs2 : List Obj) (K' : KT), K' (mk objs2.length) (objs2 ++ [o1]) (5 + 2 * objs2.length) → A objs2 K')
def Fac (A : List Obj → KT → Prop) (objs : List Obj) (K : KT) : Prop :=
  ∃ r o t, K r o t ∧ (co t ≠ 2 → o = objs) ∧ (∀ K' : KT, K' r o t → A objs K') ∧ (t = 0 → ∀ (objs2 : List Obj) (K' : KT), K' r objs2 0 → A objs2 K') ∧ Fine A objs r o t
theorem Fine.few {A : List Obj → KT → Prop} {objs : List Obj} {r : PV} {o : List Obj} {t : Nat} (h : t ≤ 2) : Fine A objs r o t := ⟨fun k e => by omega, fun k e => by omega⟩
variable {P : Program} {D : TypeId → TInfo} {ev : Operand → PV} {objs : List Obj} {K : KT}
theorem Fac.zero {A : List Obj → KT → Prop} {r : PV} (hK : K r objs 0) (h : ∀ (o : List Obj) (K' : KT), K' r o 0 → A o K') : Fac A objs K := ⟨r, objs, 0, hK, fun _ => rfl, h _, fun _ o => h o, .few (by decide)⟩
theorem Fac.rd {A : List Obj → KT → Prop} {r : PV} (k : Nat) {o : Obj} (hk : objs[k]? = some o) (hK : K r objs (4 + 2 * k)) (h : ∀ (objs2 : List Obj) (K' : KT), objs2[k]? = objs[k]? → K' r objs2 (4 + 2 * k) → A objs2 K') : Fac A objs K :=
  ⟨r, objs, _, hK, fun _ => rfl, fun K' hk => h objs K' rfl hk, fun e => by omega, fun k' e => by
    have : k' = k := by omega
    subst this; exact ⟨rfl, (List.getElem?_eq_some_iff.1 hk).1, fun objs2 K' he hk => h objs2 K' he hk⟩, fun k' e => by omega⟩
theorem Fac.wr {A : List Obj → KT → Prop} {r : PV} (k : Nat) {o : Obj} (o1 : Obj) (hk : objs[k]? = some o) (hK : K r (objs.set k o1) (5 + 2 * k))
    (h : ∀ (objs2 : List Obj) (K' : KT), objs2[k]? = objs[k]? → K' r (objs2.set k o1) (5 + 2 * k) → A objs2 K') : Fac A objs K :=
  ⟨r, _, _, hK, fun e => absurd (co_wr k) e, fun K' hk => h objs K' rfl hk, fun e => by omega, fun k' e => by omega, fun k' e => by
    have : k' = k := by omega
    subst this; exact .inl ⟨o1, (List.getElem?_eq_some_iff.1 hk).1, rfl, fun objs2 K' he hk => h objs2 K' he hk⟩⟩
theorem Fac.new {A : List Obj → KT → Prop} (mk : Nat → PV) (hm : Mk mk) (o1 : Obj) (hl : o1.live = true) (hv : o1.ver = 1) (hK : K (mk objs.length) (objs ++ [o1]) (5 + 2 * objs.length))
    (h : ∀ (objs2 : List Obj) (K' : KT), K' (mk objs2.length) (objs2 ++ [o1]) (5 + 2 * objs2.length) → A objs2 K') : Fac A objs K :=
  ⟨_, _, _, hK, fun e => absurd (co_wr _) e, fun K' hk => h objs K' hk, fun e => by omega, fun k' e => by omega, fun k' e => by
    have : k' = objs.length := by omega
    subst this; exact .inr ⟨rfl, o1, mk, hm, rfl, rfl, hl, hv, h⟩⟩
theorem Fac.two {A : List Obj → KT → Prop} {r : PV} {o : List Obj} (hK : K r o 2) (h : ∀ K' : KT, K' r o 2 → A objs K') : Fac A objs K := ⟨r, o, 2, hK, fun e => absurd (by decide) e, h, fun e => absurd e (by decide), .few (by decide)⟩
def FacP (A : (PV → Prop) → Prop) (K : PV → Prop) : Prop := ∃ r, K r ∧ ∀ K' : PV → Prop, K' r → A K'
theorem FacP.fac {A : (PV → Prop) → Prop} (h : FacP A (fun r => K r objs 0)) : Fac (fun o K => A (fun r => K r o 0)) objs K := by
  obtain ⟨r, h1, h2⟩ := h
  exact .zero h1 fun o K' hk => h2 _ hk
theorem qkx {op : BinOp} {k k' : IntKind} {x y : Int} {K : PV → Prop} (h : binI op k k' x y K) : FacP (binI op k k' x y) K := by
  cases op <;> simp only [binI] at h <;> (first
    | (obtain ⟨h1, h2, h3, h4⟩ := h; exact ⟨_, h4, fun _ hk => ⟨h1, h2, h3, hk⟩⟩)
    | (obtain ⟨h1, h2, h3⟩ := h; exact ⟨_, h3, fun _ hk => ⟨h1, h2, hk⟩⟩)
    | (obtain ⟨h1, h2⟩ := h; exact ⟨_, h2, fun _ hk => ⟨h1, hk⟩⟩))
theorem qky {op : BinOp} {x y : List UInt8} {K : PV → Prop} (h : binS op x y K) : FacP (binS op x y) K := by
  cases op <;> simp only [binS] at h <;> (first
    | exact h.elim
    | (obtain ⟨h1, h2⟩ := h; exact ⟨_, h2, fun _ hk => ⟨h1, hk⟩⟩)
    | exact ⟨_, h, fun _ hk => hk⟩)
theorem qkz {ti : TInfo} {t : TypeId} {op : BinOp} {x y : PV} {K : PV → Prop} (h : binR P ti t op x y K) : FacP (binR P ti t op x y) K := by
  unfold binR at h
  split at h
  · exact qkx h
  · exact qky h
  · obtain ⟨h1, h⟩ := h
    cases op <;> simp only [] at h <;> first | exact h.elim | exact ⟨_, h, fun _ hk => ⟨h1, hk⟩⟩
  · obtain ⟨h1, r, h2, h⟩ := h
    cases op <;> simp only [] at h <;> first | exact h.elim | exact ⟨_, h, fun _ hk => ⟨h1, r, h2, hk⟩⟩
  · obtain ⟨h1, h⟩ := h
    cases op <;> simp only [] at h <;> first | exact h.elim | exact ⟨_, h, fun _ hk => ⟨h1, hk⟩⟩
  · exact h.elim
theorem qna {op : UnOp} {x : PV} {K : PV → Prop} (h : unR op x K) : FacP (unR op x) K := by
  unfold unR at h
  split at h
  · exact ⟨_, h, fun _ hk => hk⟩
  · exact ⟨_, h.2, fun _ hk => ⟨h.1, hk⟩⟩
  · exact h.elim
theorem qie {s d : TInfo} {x : PV} {K : PV → Prop} (h : convR s d x K) : FacP (convR s d x) K := by
  unfold convR at h
  split at h
  · rename_i e; exact ⟨_, h.2, fun _ hk => by unfold convR; rw [e]; exact ⟨h.1, hk⟩⟩
  · rename_i e; exact ⟨_, h.2, fun _ hk => by unfold convR; rw [e]; exact ⟨h.1, hk⟩⟩
  · rename_i e; exact ⟨_, h.2, fun _ hk => by unfold convR; rw [e]; exact ⟨h.1, hk⟩⟩
  · exact h.elim
theorem q9y {m : Bool} {xs : List PV} {K : PV → Prop} (h : q07 m xs K) : FacP (q07 m xs) K := by
  unfold q07 at h
  split at h
  · exact ⟨_, h.2, fun _ hk => ⟨h.1, hk⟩⟩
  · exact h.elim
theorem qnb {c x y : PV} (h : pickR c x y objs K) : Fac (pickR c x y) objs K := by
  unfold pickR at h
  split at h
  · exact .zero h fun _ _ hk => hk
  · exact h.elim
theorem qnc {ti : TInfo} {p : PV} (h : loadR ti p objs K) : Fac (loadR ti p) objs K := by
  unfold loadR at h
  split at h
  · obtain ⟨h1, h2, h3, h4⟩ := h
    exact .zero h4 fun _ _ hk => ⟨h1, h2, h3, hk⟩
  · obtain ⟨o, e, h1, h2, h3, h4, h5, h6, h7, h8, h9⟩ := h
    exact .rd _ h1 h9 fun _ _ he hk => ⟨o, e, he.trans h1, h2, h3, h4, h5, h6, h7, h8, hk⟩
  · exact h.elim
theorem ql0 {ti : TInfo} {p v : PV} (h : q0a ti p v objs K) : Fac (q0a ti p v) objs K := by
  unfold q0a at h
  split at h
  · obtain ⟨o, e, h1, h2, h3, h4, h5, h6, h7, h8, h9, h10⟩ := h
    exact .wr _ _ h1 h10 fun _ _ he hk => ⟨o, e, he.trans h1, h2, h3, h4, h5, h6, h7, h8, h9, hk⟩
  · exact h.elim
theorem q6k {t : TypeId} {f : Nat} {X : Nat → TInfo → Prop} (h : q01 D t f X) : ∃ off ti, X off ti ∧ ∀ X' : Nat → TInfo → Prop, X' off ti → q01 D t f X' := by
  unfold q01 at h
  split at h
  · rename_i fs hk
    obtain ⟨x, h1, h2, h3, h4⟩ := h
    exact ⟨_, _, h4, fun X' hx => by unfold q01; rw [hk]; exact ⟨x, h1, h2, h3, hx⟩⟩
  · exact h.elim
theorem qci {t : TypeId} {p : PV} {f : Nat} (h : q0i D t p f objs K) : Fac (q0i D t p f) objs K := by
  unfold q0i at h
  split at h
  · obtain ⟨off, ti, ⟨h1, h2, h3, h4⟩, g⟩ := q6k h
    exact .zero h4 fun _ _ hk => by unfold q0i; exact g _ ⟨h1, h2, h3, hk⟩
  · obtain ⟨o, h1, h2, h3, h⟩ := h
    obtain ⟨off, ti, h4, g⟩ := q6k h
    exact .rd _ h1 h4 fun _ _ he hk => ⟨o, he.trans h1, h2, h3, g _ hk⟩
  · exact h.elim
theorem ql1 {t : TypeId} {p : PV} {f : Nat} (h : q4z D t p f objs K) : Fac (q4z D t p f) objs K := by
  unfold q4z at h
  split at h
  · obtain ⟨off, ti, ⟨h1, h2⟩, g⟩ := q6k h
    exact .zero h2 fun _ _ hk => by unfold q4z; exact g _ ⟨h1, hk⟩
  · exact h.elim
theorem qcj {t : TypeId} {x i : PV} (h : q0h D t x i objs K) : Fac (q0h D t x i) objs K := by
  unfold q0h at h
  split at h <;> (try rename_i hk)
  · rename_i e _ _ _ _ _ hk
    obtain ⟨h1, h2, y, h3, h4, h5⟩ := h
    exact .zero h5 fun _ _ hk' => by unfold q0h; rw [hk]; exact ⟨h1, h2, y, h3, h4, hk'⟩
  · rename_i e _ _ _ _ hk
    obtain ⟨h1, h2, o, h3, h4, h5, h6, h7, h8⟩ := h
    exact .rd _ h3 h8 fun _ _ he hk' => by unfold q0h; rw [hk]; exact ⟨h1, h2, o, he.trans h3, h4, h5, h6, h7, hk'⟩
  · rename_i m e _ _ _ hk
    obtain ⟨h1, h2, h3, h4, h5, h6, h7⟩ := h
    exact .zero h7 fun _ _ hk' => by unfold q0h; rw [hk]; exact ⟨h1, h2, h3, h4, h5, h6, hk'⟩
  · rename_i m e _ _ _ _ _ _ hk
    obtain ⟨h1, h2, h3, o, h4, h5, h6, h7⟩ := h
    exact .rd _ h4 h7 fun _ _ he hk' => by unfold q0h; rw [hk]; exact ⟨h1, h2, h3, o, he.trans h4, h5, h6, hk'⟩
  · exact h.elim
theorem ql2 {t : TypeId} {x i : PV} (h : q3a D t x i objs K) : Fac (q3a D t x i) objs K := by
  unfold q3a at h
  split at h <;> (try rename_i hk)
  · obtain ⟨h1, b, h2, h3⟩ := h
    exact .zero h3 fun _ _ hk' => by unfold q3a; rw [hk]; exact ⟨h1, b, h2, hk'⟩
  · obtain ⟨h1, h2, h3, h4, h5, h6⟩ := h
    exact .zero h6 fun _ _ hk' => by unfold q3a; rw [hk]; exact ⟨h1, h2, h3, h4, h5, hk'⟩
  · exact h.elim
theorem q2l {x : Option PV} {d : Int} {X : Int → Prop} (h : q03 x d X) : ∃ n, X n ∧ ∀ X' : Int → Prop, X' n → q03 x d X' := by
  unfold q03 at h
  split at h
  · exact ⟨_, h, fun _ hx => hx⟩
  · exact ⟨_, h, fun _ hx => hx⟩
  · exact h.elim
theorem ql3 {t : TypeId} {x : PV} {lo hi : Option PV} (h : q21 D t x lo hi objs K) : Fac (q21 D t x lo hi) objs K := by
  unfold q21 at h
  split at h <;> (try rename_i hk)
  · obtain ⟨l, h, g1⟩ := q2l h
    obtain ⟨m, ⟨h1, h2, h3, h4⟩, g2⟩ := q2l h
    exact .zero h4 fun _ _ hk' => by unfold q21; rw [hk]; exact g1 _ (g2 _ ⟨h1, h2, h3, hk'⟩)
  · obtain ⟨e1, e2, h⟩ := h
    obtain ⟨l, h, g1⟩ := q2l h
    obtain ⟨m, ⟨h1, h2, h3, h4⟩, g2⟩ := q2l h
    exact .zero h4 fun _ _ hk' => by unfold q21; rw [hk]; exact ⟨e1, e2, g1 _ (g2 _ ⟨h1, h2, h3, hk'⟩)⟩
  · obtain ⟨e1, o, e2, e3, e4, e5, e6, h⟩ := h
    obtain ⟨m, ⟨h1, h2, h3⟩, g2⟩ := q2l h
    exact .wr _ _ e2 h3 fun _ _ he hk' => by unfold q21; rw [hk]; exact ⟨e1, o, he.trans e2, e3, e4, e5, e6, g2 _ ⟨h1, h2, hk'⟩⟩
  · obtain ⟨e1, e2, e3, e4, e5, e6, h⟩ := h
    obtain ⟨l, h, g1⟩ := q2l h
    obtain ⟨m, ⟨h1, h2, h3, h4⟩, g2⟩ := q2l h
    exact .zero h4 fun _ _ hk' => by unfold q21; rw [hk]; exact ⟨e1, e2, e3, e4, e5, e6, g1 _ (g2 _ ⟨h1, h2, h3, hk'⟩)⟩
  · exact h.elim
theorem qoz {t : TypeId} {x : PV} (h : lenR D t x objs K) : Fac (lenR D t x) objs K := by
  unfold lenR at h
  split at h <;> (try rename_i hk)
  · exact .zero h fun _ _ hk' => by unfold lenR; rw [hk]; exact hk'
  · exact .zero h fun _ _ hk' => by unfold lenR; rw [hk]; exact hk'
  · obtain ⟨o, e2, e3, e4, h⟩ := h
    exact .rd _ e2 h fun _ _ he hk' => by unfold lenR; rw [hk]; exact ⟨o, he.trans e2, e3, e4, hk'⟩
  · exact h.elim
theorem q9z {place : Nat → Option (Nat × Nat)} : ∀ {parts : List (Nat × PV)} {cs : List PV} {X : List PV → Prop}, fillR place cs parts X → ∃ cs', X cs' ∧ ∀ X' : List PV → Prop, X' cs' → fillR place cs parts X'
  | [], cs, _, h => ⟨cs, h, fun _ hx => hx⟩
  | (_, _) :: _, _, _, ⟨x, h1, h2, h3, h⟩ =>
    let ⟨cs', g1, g2⟩ := q9z h
    ⟨cs', g1, fun _ hx => ⟨x, h1, h2, h3, g2 _ hx⟩⟩
theorem ql4 {t : TypeId} {ps : List (Nat × PV)} (h : q1m D t ps objs K) : Fac (q1m D t ps) objs K := by
  obtain ⟨a1, a2, a3, h⟩ := h
  unfold q8c at h
  split at h <;> (try rename_i hk)
  · obtain ⟨h1, h⟩ := h
    obtain ⟨cs, h2, g⟩ := q9z h
    exact .zero h2 fun _ _ hk' => ⟨a1, a2, a3, by unfold q8c; rw [hk]; exact ⟨h1, g _ hk'⟩⟩
  · obtain ⟨h1, h⟩ := h
    obtain ⟨cs, h2, g⟩ := q9z h
    exact .zero h2 fun _ _ hk' => ⟨a1, a2, a3, by unfold q8c; rw [hk]; exact ⟨h1, g _ hk'⟩⟩
  · exact h.elim
theorem qb9 {own : Bool} {t : TypeId} {n : Nat} {ps : List (Nat × PV)} (h : q00 D own t n ps objs K) : Fac (q00 D own t n ps) objs K := by
  unfold q00 at h
  split at h <;> (try rename_i hk)
  · obtain ⟨h1, h2, h3, h4, h5, h6, h7⟩ := h
    cases own with
    | true =>
      simp only [if_true] at h7
      exact .new (fun n => .osl n 1) (.inl rfl) _ rfl rfl h7 fun _ _ hk' => by unfold q00; rw [hk]; exact ⟨h1, h2, h3, h4, h5, h6, hk'⟩
    | false =>
      simp only [Bool.false_eq_true, if_false] at h7
      exact .zero h7 fun _ _ hk' => by unfold q00; rw [hk]; exact ⟨h1, h2, h3, h4, h5, h6, hk'⟩
  · exact h.elim
theorem qck {t : TypeId} {l c : PV} (h : q02 D t l c objs K) : Fac (q02 D t l c) objs K := by
  unfold q02 at h
  split at h <;> (try rename_i hk)
  · obtain ⟨h1, h2, h3, h4, h5, h6, h7, h8, h9⟩ := h
    exact .new (fun n => .osl n 1) (.inl rfl) _ rfl rfl h9 fun _ _ hk' => by unfold q02; rw [hk]; exact ⟨h1, h2, h3, h4, h5, h6, h7, h8, hk'⟩
  · exact h.elim
theorem qnd {t : TypeId} {x : PV} {X : List PV → Bool → Prop} (h : srcR D t x objs X) : ∃ ys q, X ys q ∧ (∀ X' : List PV → Bool → Prop, X' ys q → srcR D t x objs X') ∧
    (q = false → ∀ (objs2 : List Obj) (X' : List PV → Bool → Prop), X' ys q → srcR D t x objs2 X') := by
  unfold srcR at h
  split at h <;> (try rename_i hk)
  · exact ⟨_, _, h, fun _ hx => by unfold srcR; rw [hk]; exact hx, fun _ _ _ hx => by unfold srcR; rw [hk]; exact hx⟩
  · obtain ⟨o, h1, h2, h3, h⟩ := h
    exact ⟨_, _, h, fun _ hx => by unfold srcR; rw [hk]; exact ⟨o, h1, h2, h3, hx⟩, fun e => by cases e⟩
  · exact ⟨_, _, h, fun _ hx => by unfold srcR; rw [hk]; exact hx, fun _ _ _ hx => by unfold srcR; rw [hk]; exact hx⟩
  · exact h.elim
theorem qif {t u : TypeId} {s x : PV} (h : q06 D t u s x objs K) : Fac (q06 D t u s x) objs K := by
  unfold q06 at h
  split at h <;> (try rename_i hk)
  · obtain ⟨h1, h2, h3, h4, h⟩ := h
    obtain ⟨ys, q, ⟨hy, h⟩, g, g2⟩ := qnd h
    split at h
    · rename_i k ver
      obtain ⟨o, e1, e2, e3, e4, e5, e6, e7, e8, e9⟩ := h
      cases q with
      | true => exact .two e9 fun _ hk' => by unfold q06; rw [hk]; exact ⟨h1, h2, h3, h4, g _ ⟨hy, o, e1, e2, e3, e4, e5, e6, e7, e8, hk'⟩⟩
      | false => exact .wr _ _ e1 e9 fun _ _ he hk' => by unfold q06; rw [hk]; exact ⟨h1, h2, h3, h4, g2 rfl _ _ ⟨hy, o, he.trans e1, e2, e3, e4, e5, e6, e7, e8, hk'⟩⟩
    · obtain ⟨e1, e2, e3, e4, e5, e6⟩ := h
      cases q with
      | true => exact .two e6 fun _ hk' => by unfold q06; rw [hk]; exact ⟨h1, h2, h3, h4, g _ ⟨hy, e1, e2, e3, e4, e5, hk'⟩⟩
      | false => exact .new (fun n => .osl n 1) (.inl rfl) _ rfl rfl e6 fun _ _ hk' => by unfold q06; rw [hk]; exact ⟨h1, h2, h3, h4, g2 rfl _ _ ⟨hy, e1, e2, e3, e4, e5, hk'⟩⟩
    · obtain ⟨e1, e2, e3⟩ := h
      cases q with
      | true => exact .two e3 fun _ hk' => by unfold q06; rw [hk]; exact ⟨h1, h2, h3, h4, g _ ⟨hy, e1, e2, hk'⟩⟩
      | false => exact .new (fun n => .osl n 1) (.inl rfl) _ rfl rfl e3 fun _ _ hk' => by unfold q06; rw [hk]; exact ⟨h1, h2, h3, h4, g2 rfl _ _ ⟨hy, e1, e2, hk'⟩⟩
    · exact h.elim
  · exact h.elim
theorem qea {x : PV} (h : q0s x objs K) : Fac (q0s x) objs K := by
  unfold q0s at h
  split at h
  · exact .zero h fun _ _ hk => hk
  · obtain ⟨o, h1, h2, h3, h⟩ := h
    exact .rd _ h1 h fun _ _ he hk => ⟨o, he.trans h1, h2, h3, hk⟩
  · exact h.elim
theorem qne {s t : TypeId} {x : PV} (h : convO D s t x objs K) : Fac (convO D s t x) objs K := by
  by_cases hx : ∃ k ver, x = .osl k ver
  · obtain ⟨k, ver, rfl⟩ := hx
    obtain ⟨ob, bs, h1, h2, h3, h4, h5, h6, h7, h8, h9⟩ := h
    exact .rd k h1 h9 fun objs2 K' he hk => ⟨ob, bs, by rw [he]; exact h1, h2, h3, h4, h5, h6, h7, h8, hk⟩
  · have e : ∀ (objs : List Obj) (K : KT), convO D s t x objs K = convR (D s) (D t) x fun r => K r objs 0 := fun objs K => qbn fun k ver e => hx ⟨k, ver, e⟩
    rw [e] at h
    have e2 : convO D s t x = fun (o : List Obj) (K : KT) => convR (D s) (D t) x fun r => K r o 0 := by funext o K; exact e o K
    rw [e2]
    exact (qie h).fac
theorem qa0 {f : FuncId} {args : List PV} {r : PV} {o : List Obj} (h : CallR P f args objs r o 0) (objs2 : List Obj) : o = objs ∧ CallR P f args objs2 r objs2 0 := by
  cases h with
  | pure _ ha h => exact ⟨rfl, .pure _ ha h⟩
theorem qfv {f : FuncId} {args : List PV} {r : PV} {o : List Obj} {t : Nat} (h : CallR P f args objs r o t) (ht : co t ≠ 2) : o = objs := by
  cases h with
  | pure _ ha h => rfl
  | made _ _ _ _ _ => exact absurd (by decide) ht
  | used _ _ _ => exact absurd (by decide) ht
  | madeL _ _ _ _ _ _ => exact absurd (by decide) ht
  | madeT _ _ _ _ _ _ _ _ => exact absurd (by decide) ht
  | lent _ _ _ _ _ => rfl
theorem qnf {f : PV} {args : List PV} (h : callR P f args objs K) : Fac (callR P f args) objs K := by
  unfold callR at h
  split at h
  · obtain ⟨r, o, t, hc, hK⟩ := h
    refine ⟨r, o, t, hK, qfv hc, fun _ hk => ⟨r, o, t, hc, hk⟩, ?_, .few (by cases hc <;> decide)⟩
    intro ht objs2 K' hk
    subst ht
    exact ⟨r, objs2, 0, (qa0 hc objs2).2, hk⟩
  · exact h.elim
theorem qfw {t : TypeId} (h : q31 D t objs K) : Fac (q31 D t) objs K := by
  unfold q31 at h
  split at h
  · rename_i k e hk
    exact .new (fun n => .omp n 1) (.inr (.inr rfl)) _ rfl rfl h fun _ _ hk' => by unfold q31; rw [hk]; exact hk'
  · exact h.elim
theorem qig {t : TypeId} {x ix : PV} {ok : Bool} (h : q4t D t x ix ok objs K) : Fac (q4t D t x ix ok) objs K := by
  unfold q4t at h
  split at h
  · rename_i kt et k ver hk
    obtain ⟨h1, h2, o, h3, h4, h5, h6, m, h7, h8⟩ := h
    exact .rd _ h3 h8 fun _ _ he hk' => by unfold q4t; rw [hk]; exact ⟨h1, h2, o, he.trans h3, h4, h5, h6, m, h7, hk'⟩
  · exact h.elim
theorem q71 {t : TypeId} {x y z : PV} (h : q1n D t x y z objs K) : Fac (q1n D t x y z) objs K := by
  unfold q1n at h
  split at h
  · rename_i kt et k ver hk
    obtain ⟨h1, h2, h2', o, h3, h4, h5, h6, m, h7, h8⟩ := h
    exact .wr _ _ h3 h8 fun _ _ he hk' => by unfold q1n; rw [hk]; exact ⟨h1, h2, h2', o, he.trans h3, h4, h5, h6, m, h7, hk'⟩
  · exact h.elim
theorem ql5 {own : Bool} {op : Op} (h : opR P D own ev objs op K) : Fac (fun o K => opR P D own ev o op K) objs K := by
  unfold opR at h
  split at h
  · exact .zero h fun _ _ hk => hk
  · exact .zero h fun _ _ hk => hk
  · exact qnb h
  · obtain ⟨h1, h2, h3, h4⟩ := h
    exact .new (fun n => .optr n 1 0 0) (.inr (.inl rfl)) _ rfl rfl h4 fun _ _ hk => ⟨h1, h2, h3, hk⟩
  · obtain ⟨h1, h2, h3, h4⟩ := h
    exact .new (fun n => .optr n 1 0 0) (.inr (.inl rfl)) _ rfl rfl h4 fun _ _ hk => ⟨h1, h2, h3, hk⟩
  · exact ql4 h
  · exact qb9 h
  · exact qnc h
  · exact ql0 h
  · exact qea h
  · exact (qkz h).fac
  · exact (qna h).fac
  · exact qne h
  · obtain ⟨h1, h2, h3⟩ := h
    exact .zero h3 fun _ _ hk => ⟨h1, h2, hk⟩
  · exact qck h
  · exact ql3 h
  · exact qci h
  · exact ql1 h
  · exact qcj h
  · exact ql2 h
  · rename_i x i
    unfold q16 at h
    split at h
    · rename_i cs e
      obtain ⟨p, h1, h2⟩ := h
      exact .zero h2 fun _ _ hk => by show q16 (ev x) i _ _; unfold q16; rw [e]; exact ⟨p, h1, hk⟩
    · exact h.elim
  · rename_i b args ts
    unfold q19 at h
    split at h
    · rename_i t0 x0 e1 e2
      have hf := qoz h
      have e' : (fun (o : List Obj) (K : KT) => q19 D .len ts.toList args.toList ev o K) = lenR D t0 (ev x0) := by
        funext o K; unfold q19; rw [e1, e2]
      show Fac (fun (o : List Obj) (K : KT) => q19 D .len ts.toList args.toList ev o K) objs _
      rw [e']; exact hf
    · rename_i t0 u0 s0 x0 e1 e2
      have hf := qif h
      have e' : (fun (o : List Obj) (K : KT) => q19 D .append ts.toList args.toList ev o K) = q06 D t0 u0 (ev s0) (ev x0) := by
        funext o K; unfold q19; rw [e1, e2]
      show Fac (fun (o : List Obj) (K : KT) => q19 D .append ts.toList args.toList ev o K) objs _
      rw [e']; exact hf
    · obtain ⟨r, g1, g2⟩ := q9y h
      exact .zero g1 fun o K' hk => g2 (fun r => K' r o 0) hk
    · obtain ⟨r, g1, g2⟩ := q9y h
      exact .zero g1 fun o K' hk => g2 (fun r => K' r o 0) hk
    · exact h.elim
  · exact qnf h
  · exact qfw h
  · exact qig h
  · exact q71 h
  · exact q71 h
  · exact h.elim
theorem q72 {own : Bool} {op : Op} {ev' : Operand → PV} (he : ∀ x ∈ op.operands, ev x = ev' x) (h : opR P D own ev objs op K) : opR P D own ev' objs op K := by
  have hmap : ∀ (xs : Array Operand), (∀ x ∈ xs, ev x = ev' x) → xs.toList.map ev = xs.toList.map ev' :=
    fun xs hx => List.map_congr_left fun x hm => hx x (by simpa using hm)
  have hmapP : ∀ (ps : Array (Nat × Operand)), (∀ x ∈ ps.toList, ev x.2 = ev' x.2) → ps.toList.map (fun x => (x.1, ev x.2)) = ps.toList.map (fun x => (x.1, ev' x.2)) :=
    fun ps hx => List.map_congr_left fun x hm => by rw [hx x hm]
  unfold opR at h ⊢
  split at h <;> (try simp only [Op.operands, Call.operands] at he)
  case h_1 x => rw [← he x (by simp)]; exact h
  case h_2 x => rw [← he x (by simp)]; exact h
  case h_3 c x y => rw [← he c (by simp), ← he x (by simp), ← he y (by simp)]; exact h
  case h_4 => exact h
  case h_5 t x => rw [← he x (by simp)]; exact h
  case h_6 t ps => rw [← hmapP ps (fun x hx => he x.2 (by simp; exact ⟨x.1, by simpa using hx⟩))]; exact h
  case h_7 t n ps => rw [← hmapP ps (fun x hx => he x.2 (by simp; exact ⟨x.1, by simpa using hx⟩))]; exact h
  case h_8 t x => rw [← he x (by simp)]; exact h
  case h_9 t x y => rw [← he x (by simp), ← he y (by simp)]; exact h
  case h_10 x => rw [← he x (by simp)]; exact h
  case h_11 b t x y u => rw [← he x (by simp), ← he y (by simp)]; exact h
  case h_12 u t x => rw [← he x (by simp)]; exact h
  case h_13 s t x => rw [← he x (by simp)]; exact h
  case h_14 f first cap => rw [← hmap first (fun x hx => he x (by simp [hx])), ← hmap cap (fun x hx => he x (by simp [hx]))]; exact h
  case h_15 t l c => rw [← he l (by simp), ← he c (by simp)]; exact h
  case h_16 t x lo hi =>
    rw [← he x (by simp)]
    have e1 : lo.map ev = lo.map ev' := by cases lo <;> simp; exact he _ (by simp)
    have e2 : hi.map ev = hi.map ev' := by cases hi <;> simp; exact he _ (by simp)
    rw [← e1, ← e2]; exact h
  case h_17 t x f => rw [← he x (by simp)]; exact h
  case h_18 t x f => rw [← he x (by simp)]; exact h
  case h_19 t x i => rw [← he x (by simp), ← he i (by simp)]; exact h
  case h_20 t x i => rw [← he x (by simp), ← he i (by simp)]; exact h
  case h_21 x i => rw [← he x (by simp)]; exact h
  case h_22 b args ts =>
    have ha : ∀ x ∈ args, ev x = ev' x := fun x hx => he x (by simpa using hx)
    unfold q19 at h ⊢
    split at h
    · rename_i t x e1 e2
      rw [← ha x (by have : x ∈ args.toList := by rw [e2]; simp
                     simpa using this)]
      exact h
    · rename_i t u s x e1 e2
      rw [← ha s (by have : s ∈ args.toList := by rw [e2]; simp
                     simpa using this), ← ha x (by have : x ∈ args.toList := by rw [e2]; simp
                                                   simpa using this)]
      exact h
    · rw [← hmap args ha]; exact h
    · rw [← hmap args ha]; exact h
    · exact h.elim
  case h_23 f args ts =>
    rw [← he f (by simp), ← hmap args (fun x hx => he x (by simp [hx]))]; exact h
  case h_24 => exact h
  case h_25 t x ix ok => rw [← he x (by simp), ← he ix (by simp)]; exact h
  case h_26 t x k v => rw [← he x (by simp), ← he k (by simp), ← he v (by simp)]; exact h
  case h_27 t x k v => rw [← he x (by simp), ← he k (by simp), ← he v (by simp)]; exact h
  case h_28 => exact h.elim
end Lp

/-! LpM -/

namespace Lp
open Go
def RelV (base prot : Nat → Prop) (V : Wz → Prop) (S : St) (blk : Nat → Option Nat) (a : Act) (w : World) : Prop := ∃ w0, V w0 ∧ Rel base prot w0 S blk a w
abbrev Env := (Nat → Prop) → (Nat → Prop) → (Wz → Prop) → Prop
def PW (P : Program) (l : Option Nat) (E : Env) (c : Code) (Q : Exit → St → Prop) (S : St) : Prop :=
  ∀ (base prot : Nat → Prop) (V : Wz → Prop), E base prot V → ∀ (blk : Nat → Option Nat) (a : Act) (w : World), RelV base prot V S blk a w →
    c.wpIn (fen l) 0 P (fun e a' w' => ∃ S' blk', Q e S' ∧ RelV base prot V S' blk' a' w') a w
def Weak (m : Nat) (S S' : St) : Prop := ∀ (base prot : Nat → Prop) (w0 : Wz) (blk : Nat → Option Nat) (a : Act) (w : World), w0.nx ≤ m → Rel base prot w0 S blk a w → ∃ blk', Rel base prot w0 S' blk' a w
def thenS (next : St → Prop) (Q : Exit → St → Prop) : Exit → St → Prop
  | .normal, S => next S
  | e, S => Q e S
def q6a (id : Nat) (Q : Exit → St → Prop) : Exit → St → Prop
  | .exit id', S => if id' = id then Q .normal S else Q (.exit id') S
  | e, S => Q e S
variable {P : Program} {D : TypeId → TInfo} {l : Option Nat} {E : Env} {Q : Exit → St → Prop} {S : St}
theorem PW.mono {c : Code} {Q' : Exit → St → Prop} (h : PW P l E c Q S) (hq : ∀ e S, Q e S → Q' e S) : PW P l E c Q' S :=
  fun base prot V hE blk a w R => wpIn_mono (h base prot V hE blk a w R) fun e _ _ ⟨S', blk', h1, h2⟩ => ⟨S', blk', hq e S' h1, h2⟩
theorem PW.weak {c : Code} {S' : St} {m : Nat} (hE : ∀ base prot V, E base prot V → ∀ w0, V w0 → w0.nx ≤ m) (hw : Weak m S S') (h : PW P l E c Q S') : PW P l E c Q S :=
  fun base prot V hE' blk a w ⟨w0, hV, R⟩ => let ⟨blk', R'⟩ := hw base prot w0 blk a w (hE base prot V hE' w0 hV) R; h base prot V hE' blk' a w ⟨w0, hV, R'⟩
theorem PW.skip (h : Q .normal S) : PW P l E .skip Q S := fun _ _ _ _ blk _ _ R => wpIn_skip ⟨S, blk, h, R⟩
theorem PW.exit {id : Nat} (h : Q (.exit id) S) : PW P l E (.exit id) Q S := fun _ _ _ _ blk _ _ R => wpIn_exit ⟨S, blk, h, R⟩
theorem PW.ret (h : Q .ret S) : PW P l E .ret Q S := fun _ _ _ _ blk _ _ R => wpIn_ret ⟨S, blk, h, R⟩
theorem PW.seq {x y : Code} (h : PW P l E x (thenS (fun S' => PW P l E y Q S') Q) S) : PW P l E (.seq x y) Q S := by
  intro base prot V hE blk a w R
  refine wpIn_seq (wpIn_mono (h base prot V hE blk a w R) ?_)
  rintro e a' w' ⟨S', blk', h1, h2⟩
  cases e with
  | normal => exact h1 base prot V hE blk' a' w' h2
  | _ => exact ⟨S', blk', h1, h2⟩
theorem PW.block {id : Nat} {c : Code} (h : PW P l E c (q6a id Q) S) : PW P l E (.block id c) Q S := by
  intro base prot V hE blk a w R
  refine wpIn_block (wpIn_mono (h base prot V hE blk a w R) ?_)
  rintro e a' w' ⟨S', blk', h1, h2⟩
  cases e with
  | exit id' =>
    simp only [Exit.inBlock, q6a] at h1 ⊢
    split
    · rename_i e; rw [if_pos e] at h1; exact ⟨S', blk', h1, h2⟩
    · rename_i e; rw [if_neg e] at h1; exact ⟨S', blk', h1, h2⟩
  | _ => exact ⟨S', blk', h1, h2⟩
def condR (v : PV) (X Y : Prop) : Prop :=
  match v with
  | .bool b => (b = true → X) ∧ (b = false → Y)
  | _ => False
theorem PW.cond {c : Operand} {x y : Code} (h : condR (S.ev c) (PW P l E x Q S) (PW P l E y Q S)) : PW P l E (.cond c x y) Q S := by
  intro base prot V hE blk a w R
  have hc := R.choose_spec.2.ev c
  unfold condR at h
  split at h
  · rename_i b e
    rw [e] at hc
    exact wpIn_cond_split hc.bool (fun hb => h.1 hb base prot V hE blk a w R) (fun hb => h.2 hb base prot V hE blk a w R)
  · exact h.elim
def q51 (ops : List Oper) (g : Option (Nat × Bool)) (S : St) (X Y : St → Prop) : Prop :=
  match g with
  | none => X S
  | some (j, want) =>
    match (ops[j]?).bind (·.dst) with
    | none => False
    | some d =>
      match S.tmps.getD d .dead with
      | .bool b => (b = want → X { S with tmps := S.tmps.set d (.bool want) }) ∧ (b = !want → Y { S with tmps := S.tmps.set d (.bool !want) })
      | .tup [] => Y S
      | _ => False
def listR (P : Program) (D : TypeId → TInfo) (own : Nat → Bool) (ops : List Oper) : List Oper → Nat → St → List Nat → (St → List Nat → Prop) → Prop
  | [], _, S, ts, K => K S ts
  | o :: rest, i, S, ts, K =>
    q51 ops o.guard S
      (fun S => opR P D (own i) S.ev S.objs o.op fun r objs' t => listR P D own ops rest (i + 1) (St.put ⟨S.tmps, objs'⟩ o.dst r) (ts ++ [t]) K)
      (fun S => listR P D own ops rest (i + 1) (S.put o.dst (.tup [])) (ts ++ [0]) K)
theorem q73 (w : World) (ok : Nat → Prop) (objs : List Obj) (blk : Nat → Option Nat) : RepT w ok objs blk (.tup []) undef := ⟨[], rfl, rfl, fun _ _ _ h => by simp at h⟩
theorem ql6 {base prot : Nat → Prop} {w0 : Wz} {blk : Nat → Option Nat} {a : Act} {w : World} (R : Rel base prot w0 S blk a w) (d : Nat) :
    RepT w (okL base S.objs blk) S.objs blk (S.tmps.getD d .dead) (a.tmps.getD d undef) := R.ev (.tmp d)
theorem q97 {xs : List PV} {d : Nat} {p : PV} (h : xs.getD d .dead = p) (hp : p ≠ .dead) : xs.set d p = xs := by
  by_cases hd : d < xs.length
  · rw [List.getD_eq_getElem?_getD, List.getElem?_eq_getElem hd, Option.getD_some] at h
    subst h
    exact List.set_getElem_self hd
  · rw [List.getD_eq_getElem?_getD, List.getElem?_eq_none (Nat.le_of_not_lt hd), Option.getD_none] at h
    exact absurd h.symm hp
theorem q6l {ops : List Oper} {g : Option (Nat × Bool)} {X Y : St → Prop} {base prot : Nat → Prop} {w0 : Wz} {blk : Nat → Option Nat} {a : Act} {w : World}
    (R : Rel base prot w0 S blk a w) (h : q51 ops g S X Y) (o : Oper) (ho : o.guard = g) :
    (Region.wanted o (yielded ops.toArray a.tmps) = true ∧ X S) ∨ (Region.wanted o (yielded ops.toArray a.tmps) = false ∧ Y S) := by
  unfold q51 at h
  split at h
  · exact .inl ⟨by simp [Region.wanted, ho], h⟩
  · rename_i j want
    split at h
    · exact h.elim
    · rename_i d hd
      have hy : yielded ops.toArray a.tmps j = (match a.tmps[d]? with | some (.bool b) => some b | _ => none) := by
        have hd' : (ops.toArray[j]?).bind (·.dst) = some d := by simpa using hd
        unfold yielded
        rw [hd']
        rfl
      have hr := ql6 R d
      split at h
      · rename_i b hb
        rw [hb] at hr
        have hv := hr.bool
        have hlt : d < a.tmps.size := by
          rcases Nat.lt_or_ge d a.tmps.size with hh | hh
          · exact hh
          · rw [Array.getD_eq_getD_getElem?, Array.getElem?_eq_none hh] at hv
            simp [undef] at hv
        have hg : a.tmps[d]? = some (.bool b) := by
          rw [Array.getD_eq_getD_getElem?, Array.getElem?_eq_getElem hlt, Option.getD_some] at hv
          rw [Array.getElem?_eq_getElem hlt, hv]
        rw [hg] at hy
        simp only [] at hy
        by_cases hbw : b = want
        · left
          have := h.1 hbw
          rw [q97 (by rw [hb, hbw]) (by simp)] at this
          exact ⟨by simp [Region.wanted, ho, hy, hbw], this⟩
        · right
          have hbn : b = !want := by cases b <;> cases want <;> simp_all
          have := h.2 hbn
          rw [q97 (by rw [hb, hbn]) (by simp)] at this
          exact ⟨by simp [Region.wanted, ho, hy, hbn], this⟩
      · rename_i hb
        rw [hb] at hr
        right
        obtain ⟨vs, hv, hl⟩ := hr
        have hvs : vs = [] := List.eq_nil_of_length_eq_zero hl.1.symm
        subst hvs
        have hn : (match a.tmps[d]? with | some (.bool b) => some b | _ => none) = none := by
          rw [Array.getD_eq_getD_getElem?] at hv
          cases hx : a.tmps[d]? with
          | none => rfl
          | some v => rw [hx, Option.getD_some] at hv; subst hv; rfl
        rw [hn] at hy
        exact ⟨by simp [Region.wanted, ho, hy], h⟩
      · exact h.elim
theorem q6m {own : Nat → Bool} {ops : List Oper} {Qm : Exit → Act → World → Prop} (hD : ∀ t, TOk P t (D t)) (base prot : Nat → Prop) (w0 : Wz) :
    ∀ (lst : List Oper) (k : Nat) (S : St) (ts : List Nat) (K : St → List Nat → Prop) (blk : Nat → Option Nat) (a : Act) (w : World), (∀ j, lst[j]? = ops[k + j]?) → listR P D own ops lst k S ts K → Rel base prot w0 S blk a w →
      (∀ S' ts' blk' a' w', K S' ts' → Rel base prot w0 S' blk' a' w' → Qm .normal a' w') → wpOpsIn (fen l) 0 P ops.toArray Qm (List.range' k lst.length) a w
  | [], k, S, ts, K, blk, a, w, _, h, R, hq => hq S ts blk a w h R
  | o :: lst, k, S, ts, K, blk, a, w, hl, h, R, hq => by
    have h0 : ops.toArray[k]? = some o := by simpa using (hl 0).symm
    have hl' : ∀ j, lst[j]? = ops[k + 1 + j]? := fun j => by have := hl (j + 1); simpa [Nat.add_assoc, Nat.add_comm 1 j] using this
    simp only [List.length_cons, List.range'_succ, wpOpsIn, h0]
    unfold listR at h
    rcases q6l R h o rfl with ⟨hw, hx⟩ | ⟨hw, hy⟩
    · rw [if_pos hw]
      exact q96 l hD R hx fun r objs' t v w' blk' hK R' hr => q6m hD base prot w0 lst (k + 1) _ _ K blk' _ w' hl' hK (R'.put hr o.dst) hq
    · rw [if_neg (by rw [hw]; simp)]
      exact ⟨fun _ _ => trivial, q6m hD base prot w0 lst (k + 1) _ _ K blk _ w hl' hy (R.put (q73 _ _ _ _) o.dst) hq⟩
theorem PW.region {id : Nat} {ops : List Oper} (own : Nat → Bool) (hD : ∀ t, TOk P t (D t)) (h : listR P D own ops ops 0 S [] fun S' _ => Q .normal S') : PW P l E (.region id ops.toArray false) Q S := by
  intro base prot V hE blk a w ⟨w0, hV, R⟩
  refine wpIn_region ?_
  have := q6m (l := l) (Qm := fun e a' w' => ∃ S' blk', Q e S' ∧ RelV base prot V S' blk' a' w') hD base prot w0 ops 0 S [] _ blk a w (fun j => by simp) h R (fun S' ts' blk' a' w' hK R' => ⟨S', blk', hK, w0, hV, R'⟩)
  rw [List.range_eq_range']
  simpa using this
end Lp
