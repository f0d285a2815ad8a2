/-
  Part 1 of what the statement rests on: LpGlob, LpG0, LpA, LpB, LpC, LpD, LpE, LpF, LpG, LpH, LpI, LpJ, LpJm, LpK, LpL, LpM. No condition.
-/
import Derived.Shelf.Unicode.DecodeSlow
import Derived.CallsIn
import Derived.Laws.AppendOwn
import Derived.Laws.Entries
import Derived.Laws.Cells
import Derived.Laws.CopyRow
import Derived.Laws.Strings
import Derived.Laws.Tables
import Derived.Deep.AppendSrc
import Derived.Laws.IdiomStrings
import GoSem.Instr.MapUpdate
import Derived.RangeFuncCalls
import Derived.OrdersIn

set_option linter.all false

/-! LpGlob -/

namespace Lp
open Go
structure Glob where
  blocks : List Nat
  holds : Array Go.Obj → Prop
  keep : ∀ {h h' : Array Go.Obj}, (∀ b ∈ blocks, h'[b]? = h[b]?) → holds h → holds h'
  lt : ∀ {h : Array Go.Obj}, holds h → ∀ b ∈ blocks, b < h.size
theorem q3o {w w' : World} {b off : Nat} (h : w'.heap[b]? = w.heap[b]?) : w'.cell? ⟨b, off, none⟩ = w.cell? ⟨b, off, none⟩ := by
  simp only [World.cell?, h]
theorem cell_lt {w : World} {b off : Nat} {v : Value} (h : w.cell? ⟨b, off, none⟩ = some v) : b < w.heap.size := by
  unfold World.cell? at h
  cases hx : w.heap[b]? with
  | none => simp [hx] at h
  | some x => exact (Array.getElem?_eq_some_iff.1 hx).1
def u8Glob (g3 g4 : Nat) : Glob where
  blocks := [g3, g4]
  holds h := ∀ w : World, w.heap = h → Lib.Utf8Tabs g3 g4 w
  keep := by
    intro h h' hk hu w' hw'
    have h0 := hu { w' with heap := h } rfl
    have e3 : w'.heap[g3]? = ({ w' with heap := h } : World).heap[g3]? := by rw [hw']; exact hk g3 (by simp)
    have e4 : w'.heap[g4]? = ({ w' with heap := h } : World).heap[g4]? := by rw [hw']; exact hk g4 (by simp)
    refine ⟨fun c hc => ?_, fun i hi => ⟨?_, ?_⟩⟩
    · rw [q3o e3]; exact h0.1 c hc
    · rw [q3o e4]; exact (h0.2 i hi).1
    · rw [q3o e4]; exact (h0.2 i hi).2
  lt := by
    intro h hu b hb
    have h0 := hu { (default : World) with heap := h } rfl
    simp only [List.mem_cons, List.not_mem_nil, or_false] at hb
    rcases hb with rfl | rfl
    · exact cell_lt (w := { (default : World) with heap := h }) (h0.1 0 (by decide))
    · exact cell_lt (w := { (default : World) with heap := h }) (h0.2 0 (by decide)).1
end Lp

/-! LpG0 -/

namespace Lp
def glob : Glob := u8Glob 0 1
end Lp

/-! LpA -/

namespace Lp
open Go
inductive PV where
  | dead
  | int (k : IntKind) (n : Int)
  | bool (b : Bool)
  | str (s : List UInt8)
  | nilp
  | nilf
  | nili
  | nilm
  | sl (sz : Nat) (xs : List PV) (q : Option Bool)
  | agg (cs : List PV)
  | tup (cs : List PV)
  | addr (x : PV)
  | fn (f : FuncId) (first cap : List PV)
  | osl (k ver : Nat)
  | optr (k ver i f : Nat)
  | yld (l : Nat)
  | cl (sz : Nat) (xs : List PV)
  | omp (k ver : Nat)
  deriving Inhabited
def PV.cells : PV → List PV
  | .agg cs => cs
  | x => [x]
def PV.isAgg : PV → Bool
  | .agg _ => true
  | _ => false
def PV.ref : PV → Bool
  | .osl .. | .optr .. | .omp .. => true
  | _ => false
def PV.pure : PV → Bool
  | .osl .. | .optr .. | .omp .. => false
  | .fn _ a c => a.all (fun p => !p.ref) && c.all (fun p => !p.ref)
  | .tup cs | .agg cs => cs.all (fun p => !p.ref)
  | _ => true
def PV.solid : PV → Bool
  | .dead | .agg _ | .tup _ | .cl .. => false
  | _ => true
structure Obj where
  ty : TypeId
  sz : Nat
  xs : List PV
  live : Bool
  ver : Nat
  deriving Inhabited
structure St where
  tmps : List PV
  objs : List Obj
  deriving Inhabited
inductive Rep (w : World) (ok : Nat → Prop) : PV → Value → Prop
  | dead (v : Value) : Rep w ok .dead v
  | int (k : IntKind) (n : Int) : Rep w ok (.int k n) (.int k n)
  | bool (b : Bool) : Rep w ok (.bool b) (.bool b)
  | str (s : List UInt8) : Rep w ok (.str s) (.string ⟨⟨s⟩⟩)
  | nilp : Rep w ok .nilp (.pointer none)
  | nilf : Rep w ok .nilf .nilFunc
  | nili : Rep w ok .nili .nilIface
  | nilm : Rep w ok .nilm (.map none)
  | yld (l : Nat) : Rep w ok (.yld l) (.func (.yield l) #[] #[])
  | slnil (sz : Nat) (q : Option Bool) (hq : q ≠ some false) : Rep w ok (.sl sz [] q) (.slice none 0 0)
  | slz (sz : Nat) (q : Option Bool) (hq : q ≠ some true) (a : Addr) (cap : Nat) (hcap : cap ≤ maxLen) : Rep w ok (.sl sz [] q) (.slice (some a) 0 cap)
  | sl (sz : Nat) (xs : List PV) (q : Option Bool) (hq : q ≠ some true) (b off cap : Nat) (vs : Nat → Nat → Value) (hok : xs ≠ [] → ok b ∧ b < w.heap.size) (hlen : xs.length ≤ cap) (hcap : cap ≤ maxLen)
      (hsz : ∀ (i : Nat) (x : PV), xs[i]? = some x → x.cells.length = sz)
      (hcell : ∀ (i : Nat) (x : PV) (j : Nat) (p : PV), xs[i]? = some x → x.cells[j]? = some p → w.cell? ⟨b, off + i * sz + j, none⟩ = some (vs i j))
      (hrep : ∀ (i : Nat) (x : PV) (j : Nat) (p : PV), xs[i]? = some x → x.cells[j]? = some p → Rep w ok p (vs i j)) :
      Rep w ok (.sl sz xs q) (.slice (some ⟨b, off, none⟩) xs.length cap)
  | cl (sz : Nat) (xs : List PV) (v : Value) (h : Rep w ok (.sl sz xs none) v) (hc : ∀ a l c, v = .slice a l c → c = l) : Rep w ok (.cl sz xs) v
  | agg (cs : List PV) (vs : List Value) (hl : cs.length = vs.length) (h : ∀ (i : Nat) (p : PV) (v : Value), cs[i]? = some p → vs[i]? = some v → Rep w ok p v) : Rep w ok (.agg cs) (.agg ⟨vs⟩)
  | tup (cs : List PV) (vs : List Value) (hl : cs.length = vs.length) (h : ∀ (i : Nat) (p : PV) (v : Value), cs[i]? = some p → vs[i]? = some v → Rep w ok p v) : Rep w ok (.tup cs) (.tuple ⟨vs⟩)
  | addr (x : PV) (b off : Nat) (vs : Nat → Value) (hok : ok b ∧ b < w.heap.size)
      (hcell : ∀ (j : Nat) (p : PV), x.cells[j]? = some p → w.cell? ⟨b, off + j, none⟩ = some (vs j))
      (hrep : ∀ (j : Nat) (p : PV), x.cells[j]? = some p → Rep w ok p (vs j)) : Rep w ok (.addr x) (.pointer (some ⟨b, off, none⟩))
  | fn (f : FuncId) (a c : List PV) (va vc : List Value) (hla : a.length = va.length) (hlc : c.length = vc.length)
      (ha : ∀ (i : Nat) (p : PV) (v : Value), a[i]? = some p → va[i]? = some v → Rep w ok p v) (hc : ∀ (i : Nat) (p : PV) (v : Value), c[i]? = some p → vc[i]? = some v → Rep w ok p v) :
      Rep w ok (.fn f a c) (.func (.func f) ⟨va⟩ ⟨vc⟩)
theorem q86 {w w' : World} {b off : Nat} {v : Value} (h : w.cell? ⟨b, off, none⟩ = some v) (hb : ∀ x, w.heap[b]? = some x → (∃ c t y, x = .cells c t y) → w'.heap[b]? = some x) :
    w'.cell? ⟨b, off, none⟩ = some v := by
  unfold World.cell? at *
  cases hx : w.heap[b]? with
  | none => simp [hx] at h
  | some x =>
    cases x with
    | cells c t y => rw [hb _ hx ⟨c, t, y, rfl⟩]; simpa [hx] using h
    | _ => simp [hx] at h
theorem Rep.monoC {w w' : World} {ok ok' : Nat → Prop} {p : PV} {v : Value} (h : Rep w ok p v) (hs : w.heap.size ≤ w'.heap.size) (hok : ∀ b, b < w.heap.size → ok b → ok' b) (hw : ∀ b x, ok b → w.heap[b]? = some x → (∃ c t y, x = Go.Obj.cells c t y) → w'.heap[b]? = some x) :
    Rep w' ok' p v := by
  induction h with
  | dead v => exact .dead v
  | int k n => exact .int k n
  | bool b => exact .bool b
  | str s => exact .str s
  | nilp => exact .nilp
  | nilf => exact .nilf
  | nili => exact .nili
  | nilm => exact .nilm
  | yld l => exact .yld l
  | slnil sz q hq => exact .slnil sz q hq
  | slz sz q hq a cap hc => exact .slz sz q hq a cap hc
  | sl sz xs q hq b off cap vs hokb hlen hcap hsz hcell hrep ih =>
    exact .sl sz xs q hq b off cap vs (fun hn => ⟨hok b (hokb hn).2 (hokb hn).1, Nat.lt_of_lt_of_le (hokb hn).2 hs⟩) hlen hcap hsz
      (fun i x j p hx hp => q86 (hcell i x j p hx hp) (fun y hy hc => hw b y (hokb (by rintro rfl; simp at hx)).1 hy hc)) ih
  | cl sz xs v h hc ih => exact .cl sz xs v ih hc
  | agg cs vs hl h ih => exact .agg cs vs hl ih
  | tup cs vs hl h ih => exact .tup cs vs hl ih
  | addr x b off vs hokb hcell hrep ih =>
    exact .addr x b off vs ⟨hok b hokb.2 hokb.1, Nat.lt_of_lt_of_le hokb.2 hs⟩ (fun j p hp => q86 (hcell j p hp) (fun y hy hc => hw b y hokb.1 hy hc)) ih
  | fn f a c va vc hla hlc ha hc iha ihc => exact .fn f a c va vc hla hlc iha ihc
theorem Rep.mono {w w' : World} {ok ok' : Nat → Prop} {p : PV} {v : Value} (h : Rep w ok p v) (hs : w.heap.size ≤ w'.heap.size) (hok : ∀ b, b < w.heap.size → ok b → ok' b) (hw : ∀ b x, ok b → w.heap[b]? = some x → w'.heap[b]? = some x) :
    Rep w' ok' p v :=
  h.monoC hs hok (fun b x hb hx _ => hw b x hb hx) 
def MT : TypeId := 1000000007
def mapOf (c : Array Value) : Array MapEntry := ((List.range (c.size / 2)).map fun i => { key := c.getD (2 * i) undef, val := c.getD (2 * i + 1) undef, born := i }).toArray
def hobj (ty : TypeId) (c : Array Value) : Go.Obj := if ty = MT then .map (mapOf c) (c.size / 2) else .cells c ty (0, 0)
theorem q28 {ty : TypeId} (h : ty ≠ MT) (c : Array Value) : hobj ty c = .cells c ty (0, 0) := if_neg h
theorem hobj_cells {ty ty' : TypeId} {c c' : Array Value} {f : Nat × Nat} (h : hobj ty c = .cells c' ty' f) : ty ≠ MT ∧ c = c' ∧ ty = ty' ∧ f = (0, 0) := by
  unfold hobj at h
  split at h
  · cases h
  · rename_i hn; cases h; exact ⟨hn, rfl, rfl, rfl⟩
def fits (o : Obj) (c : Array Value) : Prop := o.xs.length * o.sz ≤ c.size ∧ (o.ty = MT → c.size = o.xs.length * o.sz)
theorem q4t {o : Obj} {c : Array Value} (h : o.ty ≠ MT) (hl : o.xs.length * o.sz ≤ c.size) : fits o c := ⟨hl, fun e => absurd e h⟩
def Hdr (w : World) (blk : Nat → Option Nat) (k : Nat) (o : Obj) (v : Value) : Prop :=
  match blk k with
  | none => v = .slice none 0 0 ∧ o.xs = []
  | some g => ∃ cap c, v = .slice (some ⟨g, 0, none⟩) o.xs.length cap ∧ w.heap[g]? = some (.cells c o.ty (0, 0)) ∧ o.xs.length ≤ cap ∧ cap ≤ maxLen ∧ c.size = cap * o.sz
def RepS (w : World) (ok : Nat → Prop) (objs : List Obj) (blk : Nat → Option Nat) : PV → Value → Prop
  | .osl k ver, v => v.oneCell' = true ∧ ∃ o, objs[k]? = some o ∧ ver ≤ o.ver ∧ (o.live = true → o.ver = ver → o.ty ≠ MT ∧ Hdr w blk k o v)
  | .optr k ver i f, v => v.oneCell' = true ∧ ∃ o, objs[k]? = some o ∧ ver ≤ o.ver ∧ (o.live = true → o.ver = ver → o.ty ≠ MT ∧ ∃ g, blk k = some g ∧ v = .pointer (some ⟨g, i * o.sz + f, none⟩))
  | .omp k ver, v => v.oneCell' = true ∧ ∃ o, objs[k]? = some o ∧ ver ≤ o.ver ∧ (o.live = true → o.ver = ver → o.ty = MT ∧ ∃ g, blk k = some g ∧ v = .map (some g))
  | p, v => Rep w ok p v
def RepL (R : PV → Value → Prop) (cs : List PV) (vs : List Value) : Prop :=
  cs.length = vs.length ∧ ∀ (i : Nat) (p : PV) (v : Value), cs[i]? = some p → vs[i]? = some v → R p v
def RepT (w : World) (ok : Nat → Prop) (objs : List Obj) (blk : Nat → Option Nat) : PV → Value → Prop
  | .fn f a c, v => ∃ va vc, v = .func (.func f) ⟨va⟩ ⟨vc⟩ ∧ RepL (RepS w ok objs blk) a va ∧ RepL (RepS w ok objs blk) c vc
  | .tup cs, v => ∃ vs, v = .tuple ⟨vs⟩ ∧ RepL (RepS w ok objs blk) cs vs
  | .agg cs, v => ∃ vs, v = .agg ⟨vs⟩ ∧ RepL (RepS w ok objs blk) cs vs
  | p, v => RepS w ok objs blk p v
def q0h (objs : List Obj) (blk : Nat → Option Nat) (b : Nat) : Prop := ∀ k o, objs[k]? = some o → o.live = true → blk k ≠ some b
def okL (base : Nat → Prop) (objs : List Obj) (blk : Nat → Option Nat) (b : Nat) : Prop := base b ∧ q0h objs blk b
def ObjRep (w : World) (ok : Nat → Prop) (objs : List Obj) (blk : Nat → Option Nat) (k : Nat) (o : Obj) : Prop :=
  match blk k with
  | none => o.xs = []
  | some g => ∃ c, w.heap[g]? = some (hobj o.ty c) ∧ fits o c ∧
      ∀ i x, o.xs[i]? = some x → x.cells.length = o.sz ∧ ∀ j p, x.cells[j]? = some p → ∃ v, c[i * o.sz + j]? = some v ∧ RepS w ok objs blk p v
structure ObjsRel (base prot : Nat → Prop) (objs : List Obj) (blk : Nat → Option Nat) (w : World) : Prop where
  ob : ∀ k o, objs[k]? = some o → o.live = true → ObjRep w (okL base objs blk) objs blk k o
  dis : ∀ k k' o o' g, k ≠ k' → objs[k]? = some o → o.live = true → objs[k']? = some o' → o'.live = true → blk k = some g → blk k' ≠ some g
  np : ∀ k o g, objs[k]? = some o → o.live = true → blk k = some g → ¬ prot g
structure Wz where
  heap : Array Go.Obj
  xs : List (PV × Value)
  nx : Nat
  out : World
def GlobOk (prot : Nat → Prop) (w0 : Wz) : Prop := glob.holds w0.heap ∧ ∀ b ∈ glob.blocks, prot b
def Sm (w w' : World) : Prop := w'.os = w.os ∧ w'.output = w.output
theorem Sm.refl (w : World) : Sm w w := ⟨rfl, rfl⟩
theorem Sm.trans {w w' w'' : World} (h : Sm w w') (h' : Sm w' w'') : Sm w w'' := ⟨h'.1.trans h.1, h'.2.trans h.2⟩
def PV.ltS (n : Nat) : PV → Bool
  | .osl k _ => decide (k < n)
  | .optr k _ _ _ => decide (k < n)
  | .omp k _ => decide (k < n)
  | _ => true
def PV.lt (n : Nat) : PV → Bool
  | .fn _ a c => a.all (PV.ltS n) && c.all (PV.ltS n)
  | .tup cs | .agg cs => cs.all (PV.ltS n)
  | p => p.ltS n
def DefOk (w : World) (ok : Nat → Prop) (ds : List Deferred) : Prop :=
  ∃ Ds : List Nat, ds = Ds.map (fun b => ({ target := .collected b, args := #[] } : Deferred)) ∧ Ds.Nodup ∧ ∀ b ∈ Ds, w.heap[b]? = some (.deferred (some [])) ∧ ok b
theorem DefOk.mono {w w' : World} {ok ok' : Nat → Prop} {ds : List Deferred} (h : DefOk w ok ds) (hok : ∀ b, b < w.heap.size → ok b → ok' b) (hw : ∀ b x, ok b → w.heap[b]? = some x → w'.heap[b]? = some x) : DefOk w' ok' ds := by
  obtain ⟨Ds, h1, h2, h3⟩ := h
  exact ⟨Ds, h1, h2, fun b hb => ⟨hw b _ (h3 b hb).2 (h3 b hb).1, hok b (Array.getElem?_eq_some_iff.1 (h3 b hb).1).1 (h3 b hb).2⟩⟩
theorem DefOk.nil (w : World) (ok : Nat → Prop) : DefOk w ok [] := ⟨[], rfl, List.nodup_nil, fun _ h => by simp at h⟩
structure Rel (base prot : Nat → Prop) (w0 : Wz) (S : St) (blk : Nat → Option Nat) (a : Act) (w : World) : Prop where
  nodef : DefOk w (fun b => okL base S.objs blk b ∧ ¬ prot b) a.defers
  tsz : a.tmps.size = S.tmps.length
  tm : ∀ t p, S.tmps[t]? = some p → RepT w (okL base S.objs blk) S.objs blk p (a.tmps.getD t undef)
  objs : ObjsRel base prot S.objs blk w
  pr : ∀ b, prot b → b < w0.heap.size
  fr : ∀ b, prot b → w.heap[b]? = w0.heap[b]?
  gr : w0.heap.size ≤ w.heap.size
  pb : ∀ b, ¬ prot b → base b
  ext : ∀ x ∈ w0.xs, RepT w (okL base S.objs blk) S.objs blk x.1 x.2
  exn : ∀ x ∈ w0.xs, x.1.lt w0.nx = true
  sm : Sm w0.out w
  gl : GlobOk prot w0
theorem Rel.bs {base prot : Nat → Prop} {w0 : Wz} {S : St} {blk : Nat → Option Nat} {a : Act} {w : World} (R : Rel base prot w0 S blk a w) (b : Nat) (h : w0.heap.size ≤ b) : base b :=
  R.pb b fun hp => absurd (R.pr b hp) (by omega)
theorem Rel.globOk {base prot : Nat → Prop} {w0 : Wz} {S : St} {blk : Nat → Option Nat} {a : Act} {w : World} (R : Rel base prot w0 S blk a w) : glob.holds w.heap :=
  glob.keep (fun b hb => R.fr b (R.gl.2 b hb)) R.gl.1
theorem RepS.of_rep {w : World} {ok : Nat → Prop} {objs : List Obj} {blk : Nat → Option Nat} {p : PV} {v : Value} (h : Rep w ok p v) : RepS w ok objs blk p v := by
  cases p <;> first | exact h | (cases h)
theorem RepS.rep {w : World} {ok : Nat → Prop} {objs : List Obj} {blk : Nat → Option Nat} {p : PV} {v : Value} (h : RepS w ok objs blk p v) (hp : p.ref = false) : Rep w ok p v := by
  cases p <;> first | exact h | (simp [PV.ref] at hp)
theorem RepT.of_repS {w : World} {ok : Nat → Prop} {objs : List Obj} {blk : Nat → Option Nat} {p : PV} {v : Value} (h : RepS w ok objs blk p v) : RepT w ok objs blk p v := by
  cases p <;> first
    | exact h
    | (rename_i f a c
       have h' : Rep w ok (.fn f a c) v := h
       cases h' with
       | fn _ _ _ va vc hla hlc ha hc => exact ⟨va, vc, rfl, ⟨hla, fun i p v h1 h2 => .of_rep (ha i p v h1 h2)⟩, ⟨hlc, fun i p v h1 h2 => .of_rep (hc i p v h1 h2)⟩⟩)
    | (rename_i cs
       have h' : Rep w ok (.tup cs) v := h
       cases h' with
       | tup _ vs hl hh => exact ⟨vs, rfl, hl, fun i p v h1 h2 => .of_rep (hh i p v h1 h2)⟩)
    | (rename_i cs
       have h' : Rep w ok (.agg cs) v := h
       cases h' with
       | agg _ vs hl hh => exact ⟨vs, rfl, hl, fun i p v h1 h2 => .of_rep (hh i p v h1 h2)⟩)
theorem RepT.of_rep {w : World} {ok : Nat → Prop} {objs : List Obj} {blk : Nat → Option Nat} {p : PV} {v : Value} (h : Rep w ok p v) : RepT w ok objs blk p v := .of_repS (.of_rep h)
theorem q3p {cs : List PV} (h : cs.all (fun p => !p.ref) = true) {i : Nat} {p : PV} (hi : cs[i]? = some p) : p.ref = false := by
  have := List.all_eq_true.1 h p (List.mem_of_getElem? hi)
  simpa using this
theorem RepT.rep {w : World} {ok : Nat → Prop} {objs : List Obj} {blk : Nat → Option Nat} {p : PV} {v : Value} (h : RepT w ok objs blk p v) (hp : p.pure = true) : Rep w ok p v := by
  cases p <;> first
    | exact h
    | (simp [PV.pure] at hp; done)
    | (obtain ⟨va, vc, rfl, h1, h2⟩ := h
       simp only [PV.pure, Bool.and_eq_true] at hp
       exact .fn _ _ _ va vc h1.1 h2.1 (fun i p v a b => (h1.2 i p v a b).rep (q3p hp.1 a)) (fun i p v a b => (h2.2 i p v a b).rep (q3p hp.2 a)))
    | (obtain ⟨vs, rfl, h1⟩ := h
       simp only [PV.pure] at hp
       first
         | exact .tup _ vs h1.1 (fun i p v a b => (h1.2 i p v a b).rep (q3p hp a))
         | exact .agg _ vs h1.1 (fun i p v a b => (h1.2 i p v a b).rep (q3p hp a)))
def ObjsTo (w w' : World) (objs objs' : List Obj) (blk blk' : Nat → Option Nat) : Prop :=
  ∀ k o, objs[k]? = some o → ∃ o', objs'[k]? = some o' ∧ o.ver ≤ o'.ver ∧ (o'.live = true → o'.ver = o.ver → o.live = true ∧ blk' k = blk k ∧ o'.sz = o.sz ∧ o'.ty = o.ty ∧ (o.ty ≠ MT → o'.xs.length = o.xs.length) ∧
    ∀ g c, blk k = some g → w.heap[g]? = some (.cells c o.ty (0, 0)) → ∃ c', w'.heap[g]? = some (.cells c' o.ty (0, 0)) ∧ c'.size = c.size)
theorem RepS.monoC {w w' : World} {ok ok' : Nat → Prop} {objs objs' : List Obj} {blk blk' : Nat → Option Nat} {p : PV} {v : Value} (h : RepS w ok objs blk p v)
    (hs : w.heap.size ≤ w'.heap.size) (hok : ∀ b, b < w.heap.size → ok b → ok' b) (hw : ∀ b x, ok b → w.heap[b]? = some x → (∃ c t y, x = Go.Obj.cells c t y) → w'.heap[b]? = some x) (ho : ObjsTo w w' objs objs' blk blk') :
    RepS w' ok' objs' blk' p v := by
  cases p with
  | osl k ver =>
    obtain ⟨h0, o, h1, h2, h3⟩ := h
    obtain ⟨o', g1, g2, g3⟩ := ho k o h1
    refine ⟨h0, o', g1, by omega, fun hl hv => ?_⟩
    obtain ⟨e0, e1, e2, et, e3, e4⟩ := g3 hl (by omega)
    obtain ⟨hty, hh⟩ := h3 e0 (by omega)
    have e3 := e3 hty
    refine ⟨by rw [et]; exact hty, ?_⟩
    unfold Hdr at hh ⊢
    rw [e1]
    cases hb : blk k with
    | none => rw [hb] at hh; exact ⟨hh.1, List.eq_nil_of_length_eq_zero (by rw [e3, hh.2]; rfl)⟩
    | some g =>
      rw [hb] at hh
      obtain ⟨cap, c, x1, x2, x3, x4, x5⟩ := hh
      obtain ⟨c', y1, y2⟩ := e4 g c hb x2
      exact ⟨cap, c', by rw [e3]; exact x1, by rw [et]; exact y1, by rw [e3]; exact x3, x4, by rw [y2, e2]; exact x5⟩
  | optr k ver i f =>
    obtain ⟨h0, o, h1, h2, h3⟩ := h
    obtain ⟨o', g1, g2, g3⟩ := ho k o h1
    refine ⟨h0, o', g1, by omega, fun hl hv => ?_⟩
    obtain ⟨e0, e1, e2, et, e3, e4⟩ := g3 hl (by omega)
    obtain ⟨hty, g, y1, y2⟩ := h3 e0 (by omega)
    exact ⟨by rw [et]; exact hty, g, by rw [e1]; exact y1, by rw [e2]; exact y2⟩
  | omp k ver =>
    obtain ⟨h0, o, h1, h2, h3⟩ := h
    obtain ⟨o', g1, g2, g3⟩ := ho k o h1
    refine ⟨h0, o', g1, by omega, fun hl hv => ?_⟩
    obtain ⟨e0, e1, e2, et, e3, e4⟩ := g3 hl (by omega)
    obtain ⟨hty, g, y1, y2⟩ := h3 e0 (by omega)
    exact ⟨by rw [et]; exact hty, g, by rw [e1]; exact y1, y2⟩
  | _ => exact Rep.monoC h hs hok hw
theorem RepS.mono {w w' : World} {ok ok' : Nat → Prop} {objs objs' : List Obj} {blk blk' : Nat → Option Nat} {p : PV} {v : Value} (h : RepS w ok objs blk p v)
    (hs : w.heap.size ≤ w'.heap.size) (hok : ∀ b, b < w.heap.size → ok b → ok' b) (hw : ∀ b x, ok b → w.heap[b]? = some x → w'.heap[b]? = some x) (ho : ObjsTo w w' objs objs' blk blk') :
    RepS w' ok' objs' blk' p v :=
  h.monoC hs hok (fun b x hb hx _ => hw b x hb hx) ho
theorem RepL.mono {R R' : PV → Value → Prop} {cs : List PV} {vs : List Value} (h : RepL R cs vs) (hr : ∀ p v, R p v → R' p v) : RepL R' cs vs :=
  ⟨h.1, fun i p v a b => hr p v (h.2 i p v a b)⟩
theorem RepT.monoC {w w' : World} {ok ok' : Nat → Prop} {objs objs' : List Obj} {blk blk' : Nat → Option Nat} {p : PV} {v : Value} (h : RepT w ok objs blk p v)
    (hs : w.heap.size ≤ w'.heap.size) (hok : ∀ b, b < w.heap.size → ok b → ok' b) (hw : ∀ b x, ok b → w.heap[b]? = some x → (∃ c t y, x = Go.Obj.cells c t y) → w'.heap[b]? = some x) (ho : ObjsTo w w' objs objs' blk blk') :
    RepT w' ok' objs' blk' p v := by
  have hS : ∀ p v, RepS w ok objs blk p v → RepS w' ok' objs' blk' p v := fun p v h => h.monoC hs hok hw ho
  cases p with
  | fn f a c => obtain ⟨va, vc, rfl, h1, h2⟩ := h; exact ⟨va, vc, rfl, h1.mono hS, h2.mono hS⟩
  | tup cs => obtain ⟨vs, rfl, h1⟩ := h; exact ⟨vs, rfl, h1.mono hS⟩
  | agg cs => obtain ⟨vs, rfl, h1⟩ := h; exact ⟨vs, rfl, h1.mono hS⟩
  | osl k ver => exact hS (.osl k ver) v h
  | optr k ver i f => exact hS (.optr k ver i f) v h
  | omp k ver => exact hS (.omp k ver) v h
  | _ => exact Rep.monoC h hs hok hw
theorem RepT.mono {w w' : World} {ok ok' : Nat → Prop} {objs objs' : List Obj} {blk blk' : Nat → Option Nat} {p : PV} {v : Value} (h : RepT w ok objs blk p v)
    (hs : w.heap.size ≤ w'.heap.size) (hok : ∀ b, b < w.heap.size → ok b → ok' b) (hw : ∀ b x, ok b → w.heap[b]? = some x → w'.heap[b]? = some x) (ho : ObjsTo w w' objs objs' blk blk') :
    RepT w' ok' objs' blk' p v :=
  h.monoC hs hok (fun b x hb hx _ => hw b x hb hx) ho
def Grew (w w' : World) : Prop := w.heap.size ≤ w'.heap.size ∧ (∀ (b : Nat) x, w.heap[b]? = some x → w'.heap[b]? = some x) ∧ Sm w w'
theorem Grew.refl (w : World) : Grew w w := ⟨Nat.le_refl _, fun _ _ h => h, .refl w⟩
theorem Grew.trans {w w' w'' : World} (h : Grew w w') (h' : Grew w' w'') : Grew w w'' := ⟨Nat.le_trans h.1 h'.1, fun b x e => h'.2.1 b x (h.2.1 b x e), h.2.2.trans h'.2.2⟩
theorem Grew.same {w w' : World} (h : w'.heap = w.heap) (hs : Sm w w' := by exact ⟨rfl, rfl⟩) : Grew w w' := by unfold Grew; rw [h]; exact ⟨Nat.le_refl _, fun _ _ e => e, hs⟩
theorem Grew.push {w w' : World} {o : Go.Obj} (h : w'.heap = w.heap.push o) (hs : Sm w w' := by exact ⟨rfl, rfl⟩) : Grew w w' := by
  unfold Grew; rw [h]
  refine ⟨by simp, fun b x e => ?_, hs⟩
  have hb : b < w.heap.size := (Array.getElem?_eq_some_iff.1 e).1
  rw [Array.getElem?_push]
  split
  · omega
  · exact e
theorem ObjsTo.grew {w w' : World} (h : Grew w w') (objs : List Obj) (blk : Nat → Option Nat) : ObjsTo w w' objs objs blk blk :=
  fun _ o ho => ⟨o, ho, Nat.le_refl _, fun hl _ => ⟨hl, rfl, rfl, rfl, fun _ => rfl, fun g c _ hc => ⟨c, h.2.1 g _ hc, rfl⟩⟩⟩
theorem ObjsRel.grew {base prot : Nat → Prop} {objs : List Obj} {blk : Nat → Option Nat} {w w' : World} (h : ObjsRel base prot objs blk w) (hg : Grew w w') : ObjsRel base prot objs blk w' := by
  refine ⟨fun k o h1 h2 => ?_, h.dis, h.np⟩
  have hh := h.ob k o h1 h2
  unfold ObjRep at hh ⊢
  cases hb : blk k with
  | none => rw [hb] at hh; exact hh
  | some g =>
    rw [hb] at hh
    obtain ⟨c, x1, x2, x3⟩ := hh
    refine ⟨c, hg.2.1 g _ x1, x2, fun i x hx => ⟨(x3 i x hx).1, fun j p hp => ?_⟩⟩
    obtain ⟨v, y1, y2⟩ := (x3 i x hx).2 j p hp
    exact ⟨v, y1, y2.mono hg.1 (fun _ _ h => h) (fun b x _ h => hg.2.1 b x h) (.grew hg objs blk)⟩
theorem Rel.grew {base prot : Nat → Prop} {w0 : Wz} {S : St} {blk : Nat → Option Nat} {a : Act} {w w' : World} (h : Rel base prot w0 S blk a w) (hg : Grew w w') : Rel base prot w0 S blk a w' := by
  refine ⟨h.nodef.mono (fun _ _ h => h) (fun b x _ h => hg.2.1 b x h), h.tsz, fun t p hp => (h.tm t p hp).mono hg.1 (fun _ _ h => h) (fun b x _ h => hg.2.1 b x h) (.grew hg _ _), h.objs.grew hg, h.pr, fun b hb => ?_, Nat.le_trans h.gr hg.1, h.pb, fun x hx => (h.ext x hx).mono hg.1 (fun _ _ h => h) (fun b x _ h => hg.2.1 b x h) (.grew hg _ _), h.exn, h.sm.trans hg.2.2, h.gl⟩
  have h1 := h.fr b hb
  have h2 := h.pr b hb
  cases hx : w0.heap[b]? with
  | none => rw [Array.getElem?_eq_none_iff] at hx; omega
  | some x => rw [hx] at h1; rw [hg.2.1 b x h1]
def St.put (S : St) (dst : Option Tmp) (p : PV) : St :=
  match dst with
  | some d => { S with tmps := S.tmps.set d p }
  | none => S
theorem q39 (xs : Array Value) (d t : Nat) (v u : Value) : (xs.setIfInBounds d v).getD t u = if d = t ∧ d < xs.size then v else xs.getD t u := by
  rw [Array.getD_eq_getD_getElem?, Array.getElem?_setIfInBounds, Array.getD_eq_getD_getElem?]
  by_cases h : d = t
  · subst h
    by_cases h' : d < xs.size <;> simp [h']
  · simp [h]
theorem Rel.put {base prot : Nat → Prop} {w0 : Wz} {S : St} {blk : Nat → Option Nat} {a : Act} {w : World} (h : Rel base prot w0 S blk a w) {p : PV} {v : Value}
    (hv : RepT w (okL base S.objs blk) S.objs blk p v) (dst : Option Tmp) : Rel base prot w0 (S.put dst p) blk (a.put dst v) w := by
  cases dst with
  | none => exact h
  | some d =>
    refine ⟨h.nodef, by simpa [Act.put, St.put] using h.tsz, fun t q hq => ?_, h.objs, h.pr, h.fr, h.gr, h.pb, h.ext, h.exn, h.sm, h.gl⟩
    simp only [St.put, Act.put] at hq ⊢
    rw [q39]
    rw [List.getElem?_set] at hq
    by_cases hd : d = t
    · subst hd
      by_cases hl : d < S.tmps.length
      · simp [hl] at hq
        subst hq
        simp [h.tsz, hl, hv]
      · simp [hl] at hq
    · rw [if_neg hd] at hq
      rw [if_neg (fun e => hd e.1)]
      exact h.tm t q hq
end Lp

/-! LpB -/

namespace Lp
open Go
inductive TK where
  | none
  | other
  | slice (e : TypeId)
  | struct (fs : List (Nat × TypeId))
  | array (n : Nat) (e : TypeId)
  | str
  | int (k : IntKind)
  | bool
  | map (k e : TypeId)
structure TInfo where
  kind : TK
  size : Nat
  bytes : Nat
  zero : Value
def TInfo.agg (t : TInfo) : Bool :=
  match t.kind with
  | .struct _ | .array _ _ => true
  | _ => false
def TInfo.off : TInfo := ⟨.none, 0, 0, .bool false⟩
def q9a : TypeDesc → Bool
  | .struct _ | .array _ _ => false
  | _ => true
def TOk (P : Program) (t : TypeId) (ti : TInfo) : Prop :=
  ti.kind = .none ∨
  ((∃ i, P.info? t = some i ∧ i.size = ti.size ∧ i.bytes = ti.bytes ∧ i.zero = some ti.zero ∧ t ≠ MT) ∧
   match ti.kind with
   | .none => True
   | .other => ∃ d, P.underlying t = some d ∧ q9a d = true
   | .slice e => P.underlying t = some (.slice e)
   | .struct fs => ∃ fl : Array Field, P.underlying t = some (.struct fl) ∧ fl.toList.map (fun f => (f.offset, f.type)) = fs
   | .array n e => P.underlying t = some (.array n e)
   | .str => P.underlying t = some .string
   | .int k => P.underlying t = some (.int k)
   | .bool => P.underlying t = some .bool
   | .map k e => P.underlying t = some (.map k e))
def PV.ofV : Value → PV
  | .int k n => .int k n
  | .bool b => .bool b
  | .string s => .str s.data.toList
  | .pointer none => .nilp
  | .nilFunc => .nilf
  | .nilIface => .nili
  | .map none => .nilm
  | .slice none 0 0 => .sl 0 [] (some true)
  | .func (.func f) ⟨[]⟩ ⟨[]⟩ => .fn f [] []
  | .agg ⟨cs⟩ => .agg (cs.map fun
    | .int k n => .int k n
    | .bool b => .bool b
    | .string s => .str s.data.toList
    | .pointer none => .nilp
    | .nilFunc => .nilf
    | .nilIface => .nili
    | .map none => .nilm
    | .slice none 0 0 => .sl 0 [] (some true)
    | _ => .dead)
  | _ => .dead
theorem rep_str (w : World) (ok : Nat → Prop) (s : ByteArray) : Rep w ok (.str s.data.toList) (.string s) := by
  obtain ⟨⟨l⟩⟩ := s; exact .str l
theorem q63 (w : World) (ok : Nat → Prop) (v : Value) : Rep w ok (PV.ofV v) v := by
  unfold PV.ofV
  split
  · exact .int _ _
  · exact .bool _
  · exact rep_str w ok _
  · exact .nilp
  · exact .nilf
  · exact .nili
  · exact .nilm
  · exact .slnil _ _ (by simp)
  · exact .fn _ [] [] [] [] rfl rfl (fun _ _ _ h => by simp at h) (fun _ _ _ h => by simp at h)
  · rename_i cs
    refine .agg _ cs (by simp) (fun i p v hp hv => ?_)
    rw [List.getElem?_map, hv] at hp
    simp only [Option.map_some, Option.some.injEq] at hp
    subst hp
    split
    · exact .int _ _
    · exact .bool _
    · exact rep_str w ok _
    · exact .nilp
    · exact .nilf
    · exact .nili
    · exact .nilm
    · exact .slnil _ _ (by simp)
    · exact .dead _
  · exact .dead _
def St.ev (S : St) : Operand → PV
  | .tmp t => S.tmps.getD t .dead
  | .const v => .ofV v
  | .global _ => .dead
  | .func f => .fn f [] []
theorem Rel.ev {base prot : Nat → Prop} {w0 : Wz} {S : St} {blk : Nat → Option Nat} {a : Act} {w : World} (R : Rel base prot w0 S blk a w) (x : Operand) :
    RepT w (okL base S.objs blk) S.objs blk (S.ev x) (a.eval x) := by
  cases x with
  | tmp t =>
    simp only [St.ev, Act.eval]
    by_cases h : t < S.tmps.length
    · rw [List.getD_eq_getElem?_getD, List.getElem?_eq_getElem h]
      exact R.tm t _ (List.getElem?_eq_getElem h)
    · rw [List.getD_eq_getElem?_getD, List.getElem?_eq_none (Nat.le_of_not_lt h)]
      exact .of_rep (.dead _)
  | const v => exact .of_rep (q63 _ _ v)
  | global g => exact .of_rep (.dead _)
  | func f => exact .of_rep (.fn f [] [] [] [] rfl rfl (fun _ _ _ h => by simp at h) (fun _ _ _ h => by simp at h))
def sub (cs : List PV) (off n : Nat) (agg : Bool) : PV := if agg then .agg ((cs.drop off).take n) else cs.getD off .dead
def inR (k : IntKind) (n : Int) : Prop :=
  match k with
  | .i8 => -128 ≤ n ∧ n ≤ 127
  | .i16 => -32768 ≤ n ∧ n ≤ 32767
  | .i32 => -2147483648 ≤ n ∧ n ≤ 2147483647
  | .i64 => -9223372036854775808 ≤ n ∧ n ≤ 9223372036854775807
  | .u8 => 0 ≤ n ∧ n ≤ 255
  | .u16 => 0 ≤ n ∧ n ≤ 65535
  | .u32 => 0 ≤ n ∧ n ≤ 4294967295
  | .u64 => 0 ≤ n ∧ n ≤ 18446744073709551615
theorem q46 {k : IntKind} {n : Int} (h : inR k n) : k.wrap n = n := by
  cases k <;> simp only [inR] at h <;> simp only [IntKind.wrap, IntKind.bits, IntKind.signed, Bool.true_and, Bool.false_and, Bool.false_eq_true, if_false, Int.reducePow, Nat.reduceSub] <;> first | omega | (split <;> rename_i hc <;> first | (have hd := of_decide_eq_true hc; omega) | (have hd := of_decide_eq_false (Bool.eq_false_iff.2 hc); omega))
def eqS : PV → PV → Option Bool
  | .int k a, .int k' b => if k = k' then some (decide (a = b)) else none
  | .bool a, .bool b => some (a == b)
  | .str a, .str b => some (decide (a = b))
  | _, _ => none
def eqL : List PV → List PV → Option Bool
  | [], [] => some true
  | x :: xs, y :: ys => match eqS x y, eqL xs ys with
    | some p, some q => some (p && q)
    | _, _ => none
  | _, _ => none
def EqOk (P : Program) (t : TypeId) (ps bs : List PV) : Prop :=
  P.eqGuardType P.depth t = false ∧
  ∀ (w : World) (ok : Nat → Prop) (vs us : List Value) (r : Bool), eqL ps bs = some r → RepL (Rep w ok) ps vs → RepL (Rep w ok) bs us →
    (Op.equal t (.agg ⟨vs⟩) (.agg ⟨us⟩)).run P w = .ok r w
def bitsI (op : BinOp) (k : IntKind) (x y : Int) : Int :=
  let a := BitVec.ofInt k.bits x
  let b := BitVec.ofInt k.bits y
  match op with
  | .and => k.wrap (a &&& b).toNat
  | .or => k.wrap (a ||| b).toNat
  | .xor => k.wrap (a ^^^ b).toNat
  | _ => k.wrap (a &&& ~~~b).toNat
def binI (op : BinOp) (k k' : IntKind) (a b : Int) (K : PV → Prop) : Prop :=
  match op with
  | .shl => 0 ≤ b ∧ K (.int k (k.wrap (a * 2 ^ (min b.toNat k.bits))))
  | .shr => 0 ≤ b ∧ K (.int k (a.fdiv (2 ^ (min b.toNat k.bits))))
  | .add => k = k' ∧ inR k (a + b) ∧ K (.int k (a + b))
  | .sub => k = k' ∧ inR k (a - b) ∧ K (.int k (a - b))
  | .mul => k = k' ∧ inR k (a * b) ∧ K (.int k (a * b))
  | .quo => k = k' ∧ b ≠ 0 ∧ inR k (a.tdiv b) ∧ K (.int k (a.tdiv b))
  | .rem => k = k' ∧ b ≠ 0 ∧ K (.int k (a.tmod b))
  | .and | .or | .xor | .andNot => k = k' ∧ K (.int k (bitsI op k a b))
  | .eql => k = k' ∧ K (.bool (decide (a = b)))
  | .neq => k = k' ∧ K (.bool (!decide (a = b)))
  | .lss => k = k' ∧ K (.bool (decide (a < b)))
  | .leq => k = k' ∧ K (.bool (decide (a ≤ b)))
  | .gtr => k = k' ∧ K (.bool (decide (b < a)))
  | .geq => k = k' ∧ K (.bool (decide (b ≤ a)))
def binS (op : BinOp) (a b : List UInt8) (K : PV → Prop) : Prop :=
  match op with
  | .add => a.length + b.length ≤ 9223372036854775807 ∧ K (.str (a ++ b))
  | .eql => K (.bool (decide (a = b)))
  | .neq => K (.bool (!decide (a = b)))
  | .lss => K (.bool (Op.bytesLess a b))
  | .leq => K (.bool (Op.bytesLess a b || decide (a = b)))
  | .gtr => K (.bool (!(Op.bytesLess a b || decide (a = b))))
  | .geq => K (.bool (!Op.bytesLess a b))
  | _ => False
def binR (P : Program) (ti : TInfo) (t : TypeId) (op : BinOp) (x y : PV) (K : PV → Prop) : Prop :=
  match x, y with
  | .int k a, .int k' b => binI op k k' a b K
  | .str a, .str b => binS op a b K
  | .bool a, .bool b => ti.kind = .bool ∧ (match op with
    | .eql => K (.bool (a == b))
    | .neq => K (.bool (!(a == b)))
    | _ => False)
  | .agg a, .agg b => EqOk P t a b ∧ ∃ r, eqL a b = some r ∧ (match op with
    | .eql => K (.bool r)
    | .neq => K (.bool (!r))
    | _ => False)
  | .sl _ _ (some q), .sl _ _ (some true) => (∃ e, ti.kind = .slice e) ∧ (match op with
    | .eql => K (.bool q)
    | .neq => K (.bool (!q))
    | _ => False)
  | _, _ => False
def unR (op : UnOp) (x : PV) (K : PV → Prop) : Prop :=
  match op, x with
  | .not, .bool b => K (.bool (!b))
  | .neg, .int k n => inR k (-n) ∧ K (.int k (-n))
  | _, _ => False
def convR (src dst : TInfo) (x : PV) (K : PV → Prop) : Prop :=
  match dst.kind, x with
  | .int k, .int _ n => (src.kind ≠ .none) ∧ K (.int k (k.wrap n))
  | .str, .str s => src.kind = .str ∧ K (.str s)
  | .str, .int _ n => (src.kind ≠ .none) ∧ K (.str (Utf8.encode n).data.toList)
  | _, _ => False
abbrev KT := PV → List Obj → Nat → Prop
def loadR (ti : TInfo) (p : PV) (objs : List Obj) (K : KT) : Prop :=
  match p with
  | .addr x => ti.kind ≠ .none ∧ x.cells.length = ti.size ∧ x.isAgg = ti.agg ∧ K x objs 0
  | .optr k ver i f => ∃ o e, objs[k]? = some o ∧ o.live = true ∧ o.ver = ver ∧ o.xs[i]? = some e ∧ ti.kind ≠ .none ∧ f + ti.size ≤ e.cells.length ∧
      (ti.agg = false → ti.size = 1) ∧ e.cells.all (fun c => !c.isAgg) = true ∧ K (sub e.cells f ti.size ti.agg) objs (4 + 2 * k)
  | _ => False
def PV.putCells (e : PV) (f : Nat) (vs : List PV) : PV :=
  match e with
  | .agg cs => .agg (cs.take f ++ vs ++ cs.drop (f + vs.length))
  | _ => vs.getD 0 .dead
def PV.storable (p : PV) : Bool := p.solid && (p.ref || p.pure)
def q0a (ti : TInfo) (p v : PV) (objs : List Obj) (K : KT) : Prop :=
  match p with
  | .optr k ver i f => ∃ o e, objs[k]? = some o ∧ o.live = true ∧ o.ver = ver ∧ o.xs[i]? = some e ∧ ti.kind ≠ .none ∧ v.cells.length = ti.size ∧ f + ti.size ≤ e.cells.length ∧
      (e.isAgg = false → ti.size = 1) ∧
      v.cells.all PV.storable = true ∧
      K .dead (objs.set k { o with xs := o.xs.set i (e.putCells f v.cells) }) (5 + 2 * k)
  | _ => False
def q01 (D : TypeId → TInfo) (t : TypeId) (f : Nat) (K : Nat → TInfo → Prop) : Prop :=
  match (D t).kind with
  | .struct fs => ∃ x, fs[f]? = some x ∧ (D x.2).kind ≠ .none ∧ (D x.2).size ≠ 0 ∧ K x.1 (D x.2)
  | _ => False
def q0i (D : TypeId → TInfo) (t : TypeId) (p : PV) (f : Nat) (objs : List Obj) (K : KT) : Prop :=
  match p with
  | .addr (.agg cs) => q01 D t f fun off ti => off + ti.size ≤ cs.length ∧ (ti.agg = false → ti.size = 1) ∧ cs.all (fun c => !c.isAgg) = true ∧ K (.addr (sub cs off ti.size ti.agg)) objs 0
  | .optr k ver i f' => ∃ o, objs[k]? = some o ∧ o.live = true ∧ o.ver = ver ∧ q01 D t f fun off _ => K (.optr k ver i (f' + off)) objs (4 + 2 * k)
  | _ => False
def q4n (D : TypeId → TInfo) (t : TypeId) (p : PV) (f : Nat) (objs : List Obj) (K : KT) : Prop :=
  match p with
  | .agg cs => q01 D t f fun off ti => off + ti.size ≤ cs.length ∧ K (sub cs off ti.size ti.agg) objs 0
  | _ => False
def q0j (D : TypeId → TInfo) (t : TypeId) (x i : PV) (objs : List Obj) (K : KT) : Prop :=
  match (D t).kind, x, i with
  | .slice e, .sl sz xs _, .int _ n => (D e).kind ≠ .none ∧ 0 ≤ n ∧ ∃ y, xs[n.toNat]? = some y ∧ (D e).size = sz ∧ K (.addr y) objs 0
  | .slice e, .osl k ver, .int _ n => (D e).kind ≠ .none ∧ 0 ≤ n ∧ ∃ o, objs[k]? = some o ∧ o.live = true ∧ o.ver = ver ∧ n < o.xs.length ∧ (D e).size = o.sz ∧ K (.optr k ver n.toNat 0) objs (4 + 2 * k)
  | .array m e, .addr (.agg cs), .int _ n => (D e).kind ≠ .none ∧ 0 ≤ n ∧ n < m ∧ (n.toNat + 1) * (D e).size ≤ cs.length ∧ ((D e).agg = false → (D e).size = 1) ∧ cs.all (fun c => !c.isAgg) = true ∧
      K (.addr (sub cs (n.toNat * (D e).size) (D e).size (D e).agg)) objs 0
  | .array m e, .optr k ver i f, .int _ n => (D e).kind ≠ .none ∧ 0 ≤ n ∧ n < m ∧ ∃ o, objs[k]? = some o ∧ o.live = true ∧ o.ver = ver ∧ K (.optr k ver i (f + n.toNat * (D e).size)) objs (4 + 2 * k)
  | _, _, _ => False
def q2z (D : TypeId → TInfo) (t : TypeId) (x i : PV) (objs : List Obj) (K : KT) : Prop :=
  match (D t).kind, x, i with
  | .str, .str s, .int _ n => 0 ≤ n ∧ ∃ b, s[n.toNat]? = some b ∧ K (.int .u8 b.toNat) objs 0
  | .array m e, .agg cs, .int _ n => (D e).kind ≠ .none ∧ 0 ≤ n ∧ n < m ∧ (n.toNat + 1) * (D e).size ≤ cs.length ∧ (D e).size ≠ 0 ∧ K (sub cs (n.toNat * (D e).size) (D e).size (D e).agg) objs 0
  | _, _, _ => False
def q03 (x : Option PV) (d : Int) (K : Int → Prop) : Prop :=
  match x with
  | none => K d
  | some (.int _ n) => K n
  | _ => False
def q1x (D : TypeId → TInfo) (t : TypeId) (x : PV) (lo hi : Option PV) (objs : List Obj) (K : KT) : Prop :=
  match (D t).kind, x with
  | .str, .str s => q03 lo 0 fun l => q03 hi s.length fun h => 0 ≤ l ∧ l ≤ h ∧ h ≤ s.length ∧ K (.str ((s.take h.toNat).drop l.toNat)) objs 0
  | .slice e, .sl sz xs q => (D e).kind ≠ .none ∧ (xs = [] ∨ (D e).size = sz) ∧ q03 lo 0 fun l => q03 hi xs.length fun h => 0 ≤ l ∧ l ≤ h ∧ h ≤ xs.length ∧
      K (.sl sz ((xs.take h.toNat).drop l.toNat) q) objs 0
  | .slice e, .osl k ver => (D e).kind ≠ .none ∧ ∃ o, objs[k]? = some o ∧ o.live = true ∧ o.ver = ver ∧ (D e).size = o.sz ∧ lo = none ∧ q03 hi o.xs.length fun h => 0 ≤ h ∧ h ≤ o.xs.length ∧
      K (.osl k (ver + 1)) (objs.set k { o with xs := o.xs.take h.toNat, ver := ver + 1 }) (5 + 2 * k)
  | .array m e, .addr (.agg cs) => (D e).kind ≠ .none ∧ (D e).size = 1 ∧ (D e).agg = false ∧ cs.length = m ∧ m ≤ 9223372036854775807 ∧ cs.all (fun c => !c.isAgg) = true ∧ q03 lo 0 fun l => q03 hi m fun h => 0 ≤ l ∧ l ≤ h ∧ h ≤ m ∧
      K (.sl 1 ((cs.take h.toNat).drop l.toNat) none) objs 0
  | _, _ => False
def lenR (D : TypeId → TInfo) (t : TypeId) (x : PV) (objs : List Obj) (K : KT) : Prop :=
  match (D t).kind, x with
  | .str, .str s => K (.int .i64 s.length) objs 0
  | .slice _, .sl _ xs _ => K (.int .i64 xs.length) objs 0
  | .slice _, .osl k ver => ∃ o, objs[k]? = some o ∧ o.live = true ∧ o.ver = ver ∧ K (.int .i64 o.xs.length) objs (4 + 2 * k)
  | _, _ => False
def q05 (ti : TInfo) : PV := .ofV ti.zero
def newObj (objs : List Obj) (ty : TypeId) (sz : Nat) (xs : List PV) : List Obj := objs ++ [⟨ty, sz, xs, true, 1⟩]
def q0b (t : TypeId) (ti : TInfo) (objs : List Obj) (K : KT) : Prop :=
  ti.kind ≠ .none ∧ (q05 ti).cells.length = ti.size ∧ (q05 ti).cells.all PV.storable = true ∧ K (.optr objs.length 1 0 0) (newObj objs t ti.size [q05 ti]) (5 + 2 * objs.length)
def boxR (t : TypeId) (ti : TInfo) (v : PV) (objs : List Obj) (K : KT) : Prop :=
  ti.kind ≠ .none ∧ v.cells.length = ti.size ∧ v.cells.all PV.storable = true ∧ K (.optr objs.length 1 0 0) (newObj objs t ti.size [v]) (5 + 2 * objs.length)
def fillR (place : Nat → Option (Nat × Nat)) (cells : List PV) : List (Nat × PV) → (List PV → Prop) → Prop
  | [], K => K cells
  | (i, v) :: rest, K => ∃ x, place i = some x ∧ v.cells.length = x.2 ∧ x.1 + v.cells.length ≤ cells.length ∧ fillR place (cells.take x.1 ++ v.cells ++ cells.drop (x.1 + v.cells.length)) rest K
def q9b (D : TypeId → TInfo) (t : TypeId) (parts : List (Nat × PV)) (objs : List Obj) (K : KT) : Prop :=
  match (D t).kind with
  | .struct fs => (∀ x ∈ fs, (D x.2).kind ≠ .none) ∧ fillR (fun i => (fs[i]?).map fun x => (x.1, (D x.2).size)) (q05 (D t)).cells parts fun cs => K (.agg cs) objs 0
  | .array _ e => (D e).kind ≠ .none ∧ fillR (fun i => some (i * (D e).size, (D e).size)) (q05 (D t)).cells parts fun cs => K (.agg cs) objs 0
  | _ => False
def q09 (xs : List PV) : List (Nat × PV) → List PV
  | [] => xs
  | (i, v) :: rest => q09 (xs.set i v) rest
def q00 (D : TypeId → TInfo) (own : Bool) (t : TypeId) (len : Nat) (parts : List (Nat × PV)) (objs : List Obj) (K : KT) : Prop :=
  match (D t).kind with
  | .slice e => (D e).kind ≠ .none ∧ (D e).size ≠ 0 ∧ len * (D e).size ≤ 16777216 ∧ (q05 (D e)).cells.length = (D e).size ∧
      (q05 (D e)).cells.all PV.storable = true ∧
      parts.all (fun p => decide (p.1 < len) && decide (p.2.cells.length = (D e).size) && p.2.cells.all PV.storable && (own || p.2.pure)) = true ∧
      if own then K (.osl objs.length 1) (newObj objs e (D e).size (q09 (List.replicate len (q05 (D e))) parts)) (5 + 2 * objs.length)
      else K (.sl (D e).size (q09 (List.replicate len (q05 (D e))) parts) none) objs 0
  | _ => False
def q02 (D : TypeId → TInfo) (t : TypeId) (l c : PV) (objs : List Obj) (K : KT) : Prop :=
  match (D t).kind, l, c with
  | .slice e, .int _ n, .int _ m => (D e).kind ≠ .none ∧ (q05 (D e)).cells.length = (D e).size ∧ (D e).size ≠ 0 ∧ (q05 (D e)).cells.all PV.storable = true ∧
      0 ≤ n ∧ n ≤ m ∧ m ≤ 9223372036854775807 ∧ (D e).bytes * m ≤ 281474976710656 ∧
      K (.osl objs.length 1) (newObj objs e (D e).size (List.replicate n.toNat (q05 (D e)))) (5 + 2 * objs.length)
  | _, _, _ => False
def srcR (D : TypeId → TInfo) (t : TypeId) (x : PV) (objs : List Obj) (K : List PV → Bool → Prop) : Prop :=
  match (D t).kind, x with
  | .slice _, .sl _ ys _ => K ys false
  | .slice _, .osl k ver => ∃ o, objs[k]? = some o ∧ o.live = true ∧ o.ver = ver ∧ K o.xs true
  | .str, .str s => K (s.map fun b => .int .u8 b.toNat) false
  | _, _ => False
def q07 (D : TypeId → TInfo) (t u : TypeId) (s x : PV) (objs : List Obj) (K : KT) : Prop :=
  match (D t).kind with
  | .slice e => (D e).kind ≠ .none ∧ (D e).size ≠ 0 ∧ (q05 (D e)).cells.length = (D e).size ∧ (q05 (D e)).cells.all PV.storable = true ∧ srcR D u x objs fun ys own =>
      (∀ y ∈ ys, y.cells.length = (D e).size ∧ y.cells.all PV.storable = true) ∧
      match s with
      | .osl k ver => ∃ o, objs[k]? = some o ∧ o.live = true ∧ o.ver = ver ∧ o.sz = (D e).size ∧ o.ty = e ∧ (o.xs.length + ys.length) * (D e).bytes ≤ 140737488355328 ∧ o.xs.length + ys.length ≤ 9223372036854775807 ∧
          (∀ k' v', x = .osl k' v' → k' ≠ k) ∧
          K (.osl k (ver + 1)) (objs.set k { o with xs := o.xs ++ ys, ver := ver + 1 }) (bif own then 2 else 5 + 2 * k)
      | .cl sz xs => sz = (D e).size ∧ (∀ y ∈ xs, y.cells.length = (D e).size ∧ y.cells.all PV.storable = true) ∧ (xs.length + ys.length) * (D e).bytes ≤ 140737488355328 ∧ xs.length + ys.length ≤ 9223372036854775807 ∧ ys ≠ [] ∧
          K (.osl objs.length 1) (newObj objs e (D e).size (xs ++ ys)) (bif own then 2 else 5 + 2 * objs.length)
      | .sl _ [] (some true) => ys.length * (D e).bytes ≤ 140737488355328 ∧ ys.length ≤ 9223372036854775807 ∧ K (.osl objs.length 1) (newObj objs e (D e).size ys) (bif own then 2 else 5 + 2 * objs.length)
      | _ => False
  | _ => False
def convO (D : TypeId → TInfo) (s t : TypeId) (x : PV) (objs : List Obj) (K : KT) : Prop :=
  match x with
  | .osl k ver => ∃ o bs, objs[k]? = some o ∧ o.live = true ∧ o.ver = ver ∧ o.sz = 1 ∧ bs ≠ [] ∧ o.xs = List.map (fun b : UInt8 => PV.int .u8 b.toNat) bs ∧ (D t).kind = .str ∧
      (∃ e, (D s).kind = .slice e ∧ (D e).kind = .int .u8) ∧ K (.str bs) objs (4 + 2 * k)
  | x => convR (D s) (D t) x fun r => K r objs 0
def q0q (x : PV) (objs : List Obj) (K : KT) : Prop :=
  match x with
  | .addr _ => K x objs 0
  | .optr k ver _ _ => ∃ o, objs[k]? = some o ∧ o.live = true ∧ o.ver = ver ∧ K x objs (4 + 2 * k)
  | _ => False
def q08 (isMax : Bool) (xs : List PV) (K : PV → Prop) : Prop :=
  match xs with
  | [.int k a, .int k' b] => k = k' ∧ K (.int k (if isMax then (if b > a then b else a) else (if b < a then b else a)))
  | _ => False
end Lp

/-! LpC -/

namespace Lp
open Go
def fen (l : Option Nat) : Fence := { fn := fun _ => True, depth := none, alive := false, round := l }
section
variable {P : Program} {base prot : Nat → Prop} {w0 : Wz} {S : St} {blk : Nat → Option Nat} {a : Act} {w : World} {ok : Nat → Prop} {objs : List Obj}
theorem RepT.int {k : IntKind} {n : Int} {v : Value} (h : RepT w ok objs blk (.int k n) v) : v = .int k n := by
  have h' : Rep w ok (.int k n) v := h
  cases h'; rfl
theorem RepT.bool {b : Bool} {v : Value} (h : RepT w ok objs blk (.bool b) v) : v = .bool b := by
  have h' : Rep w ok (.bool b) v := h
  cases h'; rfl
theorem RepT.str {s : List UInt8} {v : Value} (h : RepT w ok objs blk (.str s) v) : v = .string ⟨⟨s⟩⟩ := by
  have h' : Rep w ok (.str s) v := h
  cases h'; rfl
theorem RepT.sl {sz : Nat} {xs : List PV} {q : Option Bool} {v : Value} (h : RepT w ok objs blk (.sl sz xs q) v) : Rep w ok (.sl sz xs q) v := h
theorem RepT.addr {x : PV} {v : Value} (h : RepT w ok objs blk (.addr x) v) : Rep w ok (.addr x) v := h
def Ran (P : Program) (o : Oper) (a : Act) (w : World) (v : Value) (w' : World) : Prop :=
  (execOp a.eval o).run P w = .ok (.value v) w' ∨ ((execOp a.eval o).run P w = .ok .skip w' ∧ v = undef)
def NewLt (O O' : List Obj) : Prop := ∀ o1, O' = O ++ [o1] → ∀ x ∈ o1.xs, ∀ p ∈ x.cells, p.ltS O.length = true
theorem NewLt.same {O O' : List Obj} (h : O'.length = O.length) : NewLt O O' := fun o1 e => by
  have := congrArg List.length e
  simp at this; omega
theorem q3a {p : PV} {v : Value} (h : RepS w ok objs blk p v) : p.ltS objs.length = true := by
  cases p <;> first | rfl | (obtain ⟨_, o, h, _⟩ := h; simp only [PV.ltS, decide_eq_true_eq]; exact (List.getElem?_eq_some_iff.1 h).1)
theorem NewLt.of {O : List Obj} {o : Obj} (h : ∀ (i : Nat) (x : PV), o.xs[i]? = some x → ∀ (j : Nat) (p : PV), x.cells[j]? = some p → p.ltS O.length = true) : NewLt O (O ++ [o]) := fun o1 e x hx p hp => by
  have e' : o = o1 := by
    have := List.append_cancel_left e
    simpa using this
  subst e'
  obtain ⟨i, hi, rfl⟩ := List.getElem_of_mem hx
  obtain ⟨j, hj, rfl⟩ := List.getElem_of_mem hp
  exact h i _ (List.getElem?_eq_getElem hi) j _ (List.getElem?_eq_getElem hj)
def Out (P : Program) (base prot : Nat → Prop) (w0 : Wz) (S : St) (o : Oper) (a : Act) (w : World) (K : KT) : Prop :=
  ∃ v w' r objs' t blk', Ran P o a w v w' ∧ K r objs' t ∧ Rel base prot w0 ⟨S.tmps, objs'⟩ blk' a w' ∧ RepT w' (okL base objs' blk') objs' blk' r v ∧ NewLt S.objs objs'
theorem wpIn_of_ran {o : Oper} {v : Value} {w' : World} {next : Act → World → Prop} {Q : Exit → Act → World → Prop} {l : Option Nat} (hd : ∀ c, o.op ≠ .defer c)
    (h : Ran P o a w v w') (hk : next (a.put o.dst v) w') : o.wpIn (fen l) 0 P a w next Q := by
  refine ⟨fun _ _ => trivial, ?_⟩
  rw [Oper.semAt_eq _ _ _ hd]
  rcases h with h | ⟨h, rfl⟩
  · unfold Oper.uponIn; rw [h]; exact hk
  · unfold Oper.uponIn; rw [h]; exact hk
theorem Out.pure {o : Oper} {K : KT} {v : Value} {r : PV} {t : Nat} (R : Rel base prot w0 S blk a w) (h : (execOp a.eval o).run P w = .ok (.value v) w) (hK : K r S.objs t)
    (hr : RepT w (okL base S.objs blk) S.objs blk r v) : Out P base prot w0 S o a w K :=
  ⟨v, w, r, S.objs, t, blk, .inl h, hK, R, hr, .same rfl⟩
theorem TOk.info {t : TypeId} {ti : TInfo} (h : TOk P t ti) (hk : ti.kind ≠ .none) : ∃ i, P.info? t = some i ∧ i.size = ti.size ∧ i.bytes = ti.bytes ∧ i.zero = some ti.zero :=
  let ⟨i, h1, h2, h3, h4, _⟩ := (h.resolve_left hk).1
  ⟨i, h1, h2, h3, h4⟩
theorem TOk.notM {t : TypeId} {ti : TInfo} (h : TOk P t ti) (hk : ti.kind ≠ .none) : t ≠ MT := by
  obtain ⟨i, _, _, _, _, h⟩ := (h.resolve_left hk).1
  exact h
theorem TOk.run_size {t : TypeId} {ti : TInfo} (h : TOk P t ti) (hk : ti.kind ≠ .none) (w : World) : (Go.sizeOf t).run P w = .ok ti.size w := by
  obtain ⟨i, h1, h2, _⟩ := h.info hk
  simp [Go.sizeOf, typeInfo, h1, h2]
theorem TOk.under {t : TypeId} {ti : TInfo} (h : TOk P t ti) (hk : ti.kind ≠ .none) : ∃ d, P.underlying t = some d ∧ (q9a d = !ti.agg) := by
  rcases h with h | ⟨_, h⟩
  · exact absurd h hk
  · cases hd : ti.kind <;> rw [hd] at h <;> simp only [TInfo.agg, hd]
    · exact absurd hd hk
    · obtain ⟨d, h1, h2⟩ := h; exact ⟨d, h1, by simpa using h2⟩
    · exact ⟨_, h, rfl⟩
    · obtain ⟨fl, h1, _⟩ := h; exact ⟨_, h1, rfl⟩
    · exact ⟨_, h, rfl⟩
    · exact ⟨_, h, rfl⟩
    · exact ⟨_, h, rfl⟩
    · exact ⟨_, h, rfl⟩
    · exact ⟨_, h, rfl⟩
theorem TOk.run_isAgg {t : TypeId} {ti : TInfo} (h : TOk P t ti) (hk : ti.kind ≠ .none) (w : World) : (isAgg t).run P w = .ok ti.agg w := by
  obtain ⟨d, h1, h2⟩ := h.under hk
  simp only [isAgg, Sem.run_bind, run_underlying h1, Result.andThen_ok]
  cases d <;> simp [q9a] at h2 <;> simp [h2]
theorem snd_binI {op : BinOp} {k k' : IntKind} {x y : Int} {K : PV → Prop} (t : TypeId) (h : binI op k k' x y K) :
    ∃ r v, (binOp op t (.int k x) (.int k' y)).run P w = .ok v w ∧ K r ∧ (∀ ok objs blk, RepT w ok objs blk r v) := by
  have mkI : ∀ (k : IntKind) (n : Int) (ok : Nat → Prop) (objs : List Obj) (blk : Nat → Option Nat), RepT w ok objs blk (.int k n) (.int k n) := fun k n _ _ _ => .of_rep (.int k n)
  have mkB : ∀ (b : Bool) (ok : Nat → Prop) (objs : List Obj) (blk : Nat → Option Nat), RepT w ok objs blk (.bool b) (.bool b) := fun b _ _ _ => .of_rep (.bool b)
  cases op <;> simp only [binI] at h
  case add => obtain ⟨rfl, h1, h2⟩ := h; exact ⟨_, _, by simp [binOp, Op.intArith, q46 h1], h2, mkI _ _⟩
  case sub => obtain ⟨rfl, h1, h2⟩ := h; exact ⟨_, _, by simp [binOp, Op.intArith, q46 h1], h2, mkI _ _⟩
  case mul => obtain ⟨rfl, h1, h2⟩ := h; exact ⟨_, _, by simp [binOp, Op.intArith, q46 h1], h2, mkI _ _⟩
  case quo => obtain ⟨rfl, h0, h1, h2⟩ := h; exact ⟨_, _, by simp [binOp, Op.intDiv, h0, q46 h1], h2, mkI _ _⟩
  case rem => obtain ⟨rfl, h0, h2⟩ := h; exact ⟨_, _, by simp [binOp, Op.intDiv, h0], h2, mkI _ _⟩
  case and => obtain ⟨rfl, h2⟩ := h; exact ⟨_, _, by simp [binOp, Op.intBits, bitsI], h2, mkI _ _⟩
  case or => obtain ⟨rfl, h2⟩ := h; exact ⟨_, _, by simp [binOp, Op.intBits, bitsI], h2, mkI _ _⟩
  case xor => obtain ⟨rfl, h2⟩ := h; exact ⟨_, _, by simp [binOp, Op.intBits, bitsI], h2, mkI _ _⟩
  case andNot => obtain ⟨rfl, h2⟩ := h; exact ⟨_, _, by simp [binOp, Op.intBits, bitsI], h2, mkI _ _⟩
  case shl => obtain ⟨h1, h2⟩ := h; exact ⟨_, _, by simp [binOp, Op.shift, Int.not_lt.2 h1], h2, mkI _ _⟩
  case shr => obtain ⟨h1, h2⟩ := h; exact ⟨_, _, by simp [binOp, Op.shift, Int.not_lt.2 h1], h2, mkI _ _⟩
  case eql => obtain ⟨rfl, h2⟩ := h; exact ⟨_, _, by simp [binOp, Op.intCmp]; rfl, h2, mkB _⟩
  case neq => obtain ⟨rfl, h2⟩ := h; exact ⟨_, _, by simp [binOp, Op.intCmp]; rfl, h2, mkB _⟩
  case lss => obtain ⟨rfl, h2⟩ := h; exact ⟨_, _, by simp [binOp, Op.intCmp], h2, mkB _⟩
  case leq => obtain ⟨rfl, h2⟩ := h; exact ⟨_, _, by simp [binOp, Op.intCmp], h2, mkB _⟩
  case gtr => obtain ⟨rfl, h2⟩ := h; exact ⟨_, _, by simp [binOp, Op.intCmp], h2, mkB _⟩
  case geq => obtain ⟨rfl, h2⟩ := h; exact ⟨_, _, by simp [binOp, Op.intCmp], h2, mkB _⟩
theorem append_mk (a b : List UInt8) : (ByteArray.mk ⟨a⟩ ++ ByteArray.mk ⟨b⟩ : ByteArray) = ByteArray.mk ⟨a ++ b⟩ := by
  apply ByteArray.ext
  simp [ByteArray.data_append]
theorem size_mk (a : List UInt8) : (ByteArray.mk ⟨a⟩).size = a.length := rfl
theorem snd_binS {op : BinOp} {x y : List UInt8} {K : PV → Prop} (t : TypeId) (h : binS op x y K) :
    ∃ r v, (binOp op t (.string ⟨⟨x⟩⟩) (.string ⟨⟨y⟩⟩)).run P w = .ok v w ∧ K r ∧ (∀ ok objs blk, RepT w ok objs blk r v) := by
  have mkS : ∀ (n : List UInt8) (ok : Nat → Prop) (objs : List Obj) (blk : Nat → Option Nat), RepT w ok objs blk (.str n) (.string ⟨⟨n⟩⟩) := fun n _ _ _ => .of_rep (.str n)
  have mkB : ∀ (b : Bool) (ok : Nat → Prop) (objs : List Obj) (blk : Nat → Option Nat), RepT w ok objs blk (.bool b) (.bool b) := fun b _ _ _ => .of_rep (.bool b)
  have hb : (x == y) = decide (x = y) := by by_cases hxy : x = y <;> simp [hxy]
  cases op <;> simp only [binS] at h
  case add =>
    obtain ⟨h1, h2⟩ := h
    refine ⟨_, _, ?_, h2, mkS _⟩
    have : ¬ (((x.length + y.length : Nat) : Int) > IntKind.i64.max) := by simp only [IntKind.max, IntKind.signed, IntKind.bits, if_true]; omega
    simp only [binOp, Op.stringOp, size_mk, append_mk, if_neg this, Sem.run_pure]
  case eql => exact ⟨_, _, by simp [binOp, Op.stringOp, hb], h, mkB _⟩
  case neq => exact ⟨_, _, by simp [binOp, Op.stringOp, hb], h, mkB _⟩
  case lss => exact ⟨_, _, by simp [binOp, Op.stringOp], h, mkB _⟩
  case leq => exact ⟨_, _, by simp [binOp, Op.stringOp, hb], h, mkB _⟩
  case gtr => exact ⟨_, _, by simp [binOp, Op.stringOp, hb], h, mkB _⟩
  case geq => exact ⟨_, _, by simp [binOp, Op.stringOp], h, mkB _⟩
theorem q1f {op : BinOp} {t : TypeId} {x y : Operand} {u v : Value} (h1 : u ≠ .nilIface) (h2 : ∀ cs, u ≠ .agg cs) : (eqGuard op t x y u v).run P w = .ok () w := by
  unfold eqGuard
  cases op <;> simp <;> cases u <;> simp_all
theorem q8m (d : Nat) {t : TypeId} (hu : P.underlying t = some .bool) (x y : Bool) : (Op.equalIn (d + 1) t (.bool x) (.bool y)).run P w = .ok (x == y) w := by
  simp [Op.equalIn, run_underlying hu]
theorem q5w {t : TypeId} (hu : P.underlying t = some .bool) (x y : Bool) : (Op.equal t (.bool x) (.bool y)).run P w = .ok (x == y) w := q8m 9999 hu x y
theorem q7n (d : Nat) {t e : TypeId} (hu : P.underlying t = some (.slice e)) (x : Option Addr) (n c : Nat) : (Op.equalIn (d + 1) t (.slice x n c) (.slice none 0 0)).run P w = .ok x.isNone w := by
  cases x <;> simp [Op.equalIn, run_underlying hu]
theorem q1g {t e : TypeId} (hu : P.underlying t = some (.slice e)) (x : Option Addr) (n c : Nat) : (Op.equal t (.slice x n c) (.slice none 0 0)).run P w = .ok x.isNone w := q7n 9999 hu x n c
theorem eqL_noref : ∀ {ps bs : List PV} {r : Bool}, eqL ps bs = some r → ps.all (fun p => !p.ref) = true ∧ bs.all (fun p => !p.ref) = true
  | [], [], _, _ => ⟨rfl, rfl⟩
  | x :: xs, y :: ys, r, h => by
    simp only [eqL] at h
    split at h
    · rename_i p q hp hq
      have ih := eqL_noref hq
      refine ⟨?_, ?_⟩ <;> simp only [List.all_cons, Bool.and_eq_true]
      · refine ⟨?_, ih.1⟩
        cases x <;> simp [PV.ref] <;> simp [eqS] at hp
      · refine ⟨?_, ih.2⟩
        cases y <;> simp [PV.ref] <;> cases x <;> simp [eqS] at hp
    · cases h
theorem snd_binR {op : BinOp} {t : TypeId} {ti : TInfo} {x y : Operand} {K : PV → Prop} (ht : TOk P t ti) (R : Rel base prot w0 S blk a w) (h : binR P ti t op (S.ev x) (S.ev y) K) :
    ∃ r v, (eqGuard op t x y (a.eval x) (a.eval y)).run P w = .ok () w ∧ (binOp op t (a.eval x) (a.eval y)).run P w = .ok v w ∧ K r ∧ RepT w (okL base S.objs blk) S.objs blk r v := by
  have hx := R.ev x
  have hy := R.ev y
  have mkB : ∀ (b : Bool) (ok : Nat → Prop) (objs : List Obj) (blk : Nat → Option Nat), RepT w ok objs blk (.bool b) (.bool b) := fun b _ _ _ => .of_rep (.bool b)
  unfold binR at h
  split at h
  · rename_i k n k' n' e1 e2
    rw [e1] at hx; rw [e2] at hy
    rw [hx.int, hy.int]
    obtain ⟨r, v, h1, h2, h3⟩ := snd_binI (P := P) (w := w) t h
    exact ⟨r, v, q1f (by simp) (by simp), h1, h2, h3 _ _ _⟩
  · rename_i s s' e1 e2
    rw [e1] at hx; rw [e2] at hy
    rw [hx.str, hy.str]
    obtain ⟨r, v, h1, h2, h3⟩ := snd_binS (P := P) (w := w) t h
    exact ⟨r, v, q1f (by simp) (by simp), h1, h2, h3 _ _ _⟩
  · rename_i b b' e1 e2
    rw [e1] at hx; rw [e2] at hy
    rw [hx.bool, hy.bool]
    obtain ⟨hk, h⟩ := h
    have hu : P.underlying t = some .bool := by
      have := ht.resolve_left (by rw [hk]; simp)
      rw [hk] at this; exact this.2
    cases op <;> simp only [] at h
    case eql => exact ⟨_, _, q1f (by simp) (by simp), by simp [binOp, q5w hu], h, mkB _ _ _ _⟩
    case neq => exact ⟨_, _, q1f (by simp) (by simp), by simp [binOp, q5w hu], h, mkB _ _ _ _⟩
  · rename_i cs cs' e1 e2
    rw [e1] at hx; rw [e2] at hy
    obtain ⟨⟨hg, he⟩, r, h1, h⟩ := h
    obtain ⟨n1, n2⟩ := eqL_noref h1
    obtain ⟨vs, ev1, g1⟩ := hx
    obtain ⟨us, ev2, g2⟩ := hy
    rw [ev1, ev2]
    have heq := he w (okL base S.objs blk) vs us r h1 ⟨g1.1, fun i p v a b => (g1.2 i p v a b).rep (q3p n1 a)⟩ ⟨g2.1, fun i p v a b => (g2.2 i p v a b).rep (q3p n2 a)⟩
    have hgd : (eqGuard op t x y (.agg ⟨vs⟩) (.agg ⟨us⟩)).run P w = .ok () w := by
      unfold eqGuard
      cases op <;> simp [hg]
    cases op <;> simp only [] at h
    case eql => exact ⟨_, _, hgd, by simp [binOp, heq], h, mkB _ _ _ _⟩
    case neq => exact ⟨_, _, hgd, by simp [binOp, heq], h, mkB _ _ _ _⟩
  · rename_i sz xs q sz' ys e1 e2
    rw [e1] at hx; rw [e2] at hy
    obtain ⟨⟨e, hk⟩, h⟩ := h
    have hu : P.underlying t = some (.slice e) := by
      have := ht.resolve_left (by rw [hk]; simp)
      rw [hk] at this; exact this.2
    have hy' : a.eval y = .slice none 0 0 := by
      have := hy.sl
      generalize a.eval y = vy at this
      cases this with
      | slnil => rfl
      | slz _ _ hq => exact absurd rfl hq
      | sl _ _ _ hq => exact absurd rfl hq
    rw [hy']
    have hx' := hx.sl
    generalize a.eval x = vx at hx'
    have hg : (eqGuard op t x y vx (.slice none 0 0)).run P w = .ok () w := by
      cases hx' <;> exact q1f (by simp) (by simp)
    have hb : ∀ op, op = .eql ∨ op = .neq → (binOp op t vx (.slice none 0 0)).run P w = .ok (.bool (if op = .eql then q else !q)) w := by
      rintro op (rfl | rfl)
      · cases hx' with
        | slnil _ _ hq => cases q <;> simp_all [binOp, q1g hu]
        | slz _ _ hq => cases q <;> simp_all [binOp, q1g hu]
        | sl _ _ _ hq => cases q <;> simp_all [binOp, q1g hu]
      · cases hx' with
        | slnil _ _ hq => cases q <;> simp_all [binOp, q1g hu]
        | slz _ _ hq => cases q <;> simp_all [binOp, q1g hu]
        | sl _ _ _ hq => cases q <;> simp_all [binOp, q1g hu]
    cases op <;> simp only [] at h
    case eql => exact ⟨_, _, hg, hb _ (.inl rfl), h, mkB _ _ _ _⟩
    case neq => exact ⟨_, _, hg, hb _ (.inr rfl), h, mkB _ _ _ _⟩
  · exact h.elim
theorem snd_unR {op : UnOp} {x : Operand} {K : PV → Prop} (R : Rel base prot w0 S blk a w) (h : unR op (S.ev x) K) :
    ∃ r v, (Op.unary op (a.eval x)).run P w = .ok v w ∧ K r ∧ RepT w (okL base S.objs blk) S.objs blk r v := by
  have hx := R.ev x
  unfold unR at h
  split at h
  · rename_i e; rw [e] at hx; rw [hx.bool]
    exact ⟨_, _, by simp [Op.unary], h, .of_rep (.bool _)⟩
  · rename_i k n e; rw [e] at hx; rw [hx.int]
    exact ⟨_, _, by simp [Op.unary, Op.intArith, q46 h.1], h.2, .of_rep (.int _ _)⟩
  · exact h.elim
theorem snd_convR {s d : TypeId} {ts td : TInfo} (hs : TOk P s ts) (hd : TOk P d td) {x : Operand} {K : PV → Prop} (R : Rel base prot w0 S blk a w) (h : convR ts td (S.ev x) K) :
    ∃ r v, (convert s d (a.eval x)).run P w = .ok v w ∧ K r ∧ RepT w (okL base S.objs blk) S.objs blk r v := by
  have hx := R.ev x
  unfold convR at h
  split at h
  · rename_i k k' n e e'
    rw [e'] at hx; rw [hx.int]
    obtain ⟨ds, hds, _⟩ := hs.under h.1
    have hu : P.underlying d = some (.int k) := by
      have := hd.resolve_left (by rw [e]; simp)
      rw [e] at this; exact this.2
    refine ⟨_, _, ?_, h.2, .of_rep (.int _ _)⟩
    simp [convert, run_underlying hds, run_underlying hu, Conv.intToInt]
  · rename_i s' e e'
    rw [e'] at hx; rw [hx.str]
    have hu : P.underlying d = some .string := by
      have := hd.resolve_left (by rw [e]; simp)
      rw [e] at this; exact this.2
    have hu' : P.underlying s = some .string := by
      have := hs.resolve_left (by rw [h.1]; simp)
      rw [h.1] at this; exact this.2
    refine ⟨_, _, ?_, h.2, .of_rep (.str _)⟩
    simp [convert, run_underlying hu, run_underlying hu']
  · rename_i k' n e e'
    rw [e'] at hx; rw [hx.int]
    obtain ⟨ds, hds, _⟩ := hs.under h.1
    have hu : P.underlying d = some .string := by
      have := hd.resolve_left (by rw [e]; simp)
      rw [e] at this; exact this.2
    refine ⟨_, .string (Utf8.encode n), ?_, h.2, .of_rep (.str _)⟩
    simp [convert, run_underlying hds, run_underlying hu, Conv.intToString]
  · exact h.elim
end
end Lp

/-! LpD -/

namespace Lp
open Go
section
variable {P : Program} {base prot : Nat → Prop} {w0 : Wz} {S : St} {blk : Nat → Option Nat} {a : Act} {w : World} {ok : Nat → Prop} {objs : List Obj} {D : TypeId → TInfo}
theorem add_lit (b off n : Nat) : (⟨b, off, none⟩ : Addr).add n = ⟨b, off + n, none⟩ := by
  unfold Addr.add; split <;> simp_all
def At (R : PV → Value → Prop) (w : World) (b off : Nat) (x : PV) : Prop := ∀ j p, x.cells[j]? = some p → ∃ v, w.cell? ⟨b, off + j, none⟩ = some v ∧ R p v
theorem at_vals {R : PV → Value → Prop} {b off : Nat} {x : PV} (h : At R w b off x) : ∃ vs : List Value, vs.length = x.cells.length ∧ (∀ j v, vs[j]? = some v → w.cell? ((⟨b, off, none⟩ : Addr).add j) = some v) ∧ RepL R x.cells vs := by
  refine ⟨(List.range x.cells.length).map fun j => (w.cell? ⟨b, off + j, none⟩).getD undef, by simp, ?_, ?_, ?_⟩
  · intro j v hv
    rw [List.getElem?_map] at hv
    cases hr : (List.range x.cells.length)[j]? with
    | none => simp [hr] at hv
    | some i =>
      have hi := List.getElem?_eq_some_iff.1 hr
      obtain ⟨hj, hi⟩ := hi
      simp at hi hj
      subst hi
      obtain ⟨u, h1, _⟩ := h j _ (List.getElem?_eq_getElem hj)
      simp [hr, h1] at hv
      rw [add_lit, h1, hv]
  · simp
  · intro j p v hp hv
    rw [List.getElem?_map] at hv
    cases hr : (List.range x.cells.length)[j]? with
    | none => simp [hr] at hv
    | some i =>
      have hi := List.getElem?_eq_some_iff.1 hr
      obtain ⟨hj, hi⟩ := hi
      simp at hi hj
      subst hi
      obtain ⟨u, h1, h2⟩ := h j p hp
      simp [hr, h1] at hv
      subst hv; exact h2
def LoadRep (R : PV → Value → Prop) (x : PV) (v : Value) : Prop :=
  match x with
  | .agg cs => ∃ vs, v = .agg ⟨vs⟩ ∧ RepL R cs vs
  | x => R x v
theorem q2e {R : PV → Value → Prop} {b off : Nat} {x : PV} {t : TypeId} {ti : TInfo} (ht : TOk P t ti) (hk : ti.kind ≠ .none) (h : At R w b off x) (hl : x.cells.length = ti.size) (ha : x.isAgg = ti.agg) :
    ∃ v, (loadVar t ⟨b, off, none⟩).run P w = .ok v w ∧ LoadRep R x v := by
  obtain ⟨vs, h1, h2, h3⟩ := at_vals h
  cases hx : x.isAgg with
  | true =>
    obtain ⟨cs, rfl⟩ : ∃ cs, x = .agg cs := by cases x <;> simp [PV.isAgg] at hx; exact ⟨_, rfl⟩
    refine ⟨.agg ⟨vs⟩, ?_, vs, rfl, h3⟩
    have hr := run_loadCells_list (P := P) w ⟨b, off, none⟩ vs h2
    rw [h1, hl] at hr
    simp only [loadVar, Sem.run_bind, ht.run_isAgg hk, Result.andThen_ok, ← ha, hx, if_true, ht.run_size hk, hr]
    rfl
  | false =>
    have hc : x.cells = [x] := by cases x <;> simp [PV.isAgg] at hx <;> rfl
    rw [hc] at h3
    have h0 := h 0 x (by rw [hc]; rfl)
    obtain ⟨v, g1, g2⟩ := h0
    refine ⟨v, ?_, ?_⟩
    · simp only [loadVar, Sem.run_bind, ht.run_isAgg hk, Result.andThen_ok, ← ha, hx, Bool.false_eq_true, if_false, run_load]
      have : w.cell? ⟨b, off, none⟩ = some v := by simpa using g1
      rw [this]
    · cases x <;> simp [PV.isAgg] at hx <;> exact g2
theorem At.rep {b off : Nat} {x : PV} (vs : Nat → Value)
    (hcell : ∀ (j : Nat) (p : PV), x.cells[j]? = some p → w.cell? ⟨b, off + j, none⟩ = some (vs j))
    (hrep : ∀ (j : Nat) (p : PV), x.cells[j]? = some p → Rep w ok p (vs j)) : At (Rep w ok) w b off x := fun j p hp => ⟨vs j, hcell j p hp, hrep j p hp⟩
theorem Rep.ofAt {b off : Nat} {x : PV} (hb : ok b ∧ b < w.heap.size) (h : At (Rep w ok) w b off x) : Rep w ok (.addr x) (.pointer (some ⟨b, off, none⟩)) := by
  refine .addr x b off (fun j => (w.cell? ⟨b, off + j, none⟩).getD undef) hb ?_ ?_
  · intro j p hp; obtain ⟨v, h1, _⟩ := h j p hp; simp [h1]
  · intro j p hp; obtain ⟨v, h1, h2⟩ := h j p hp; simpa [h1] using h2
theorem q87 {x : PV} {v : Value} (h : LoadRep (Rep w ok) x v) : RepT w ok objs blk x v := by
  cases x with
  | agg cs => obtain ⟨vs, rfl, h1⟩ := h; exact ⟨vs, rfl, h1.mono fun _ _ h => .of_rep h⟩
  | _ => exact .of_rep h
theorem q6n {x : PV} {v : Value} (h : LoadRep (RepS w ok objs blk) x v) : RepT w ok objs blk x v := by
  cases x with
  | agg cs => obtain ⟨vs, rfl, h1⟩ := h; exact ⟨vs, rfl, h1⟩
  | _ => exact .of_repS h
theorem At.sub {R : PV → Value → Prop} {b off : Nat} {cs : List PV} (h : At R w b off (.agg cs)) (o n : Nat) (agg : Bool) (hl : o + n ≤ cs.length) (h1 : agg = false → n = 1)
    (hd : ∀ c ∈ cs, c.isAgg = false) : At R w b (off + o) (sub cs o n agg) := by
  intro j p hp
  unfold Lp.sub at hp
  cases agg with
  | true =>
    simp only [if_true, PV.cells] at hp
    rw [List.getElem?_take] at hp
    split at hp
    · rw [List.getElem?_drop] at hp
      obtain ⟨v, g1, g2⟩ := h (o + j) p hp
      exact ⟨v, by rw [← g1]; congr 2; omega, g2⟩
    · cases hp
  | false =>
    have hn := h1 rfl
    subst hn
    simp only [Bool.false_eq_true, if_false] at hp
    have ho : o < cs.length := by omega
    rw [List.getD_eq_getElem?_getD, List.getElem?_eq_getElem ho, Option.getD_some] at hp
    have hna := hd _ (List.getElem_mem ho)
    have hc : (cs[o]).cells = [cs[o]] := by revert hna; cases cs[o] <;> simp [PV.isAgg, PV.cells]
    rw [hc] at hp
    cases j with
    | zero =>
      simp at hp
      obtain ⟨v, g1, g2⟩ := h o cs[o] (List.getElem?_eq_getElem ho)
      exact ⟨v, by simpa using g1, hp ▸ g2⟩
    | succ j => simp at hp
theorem obj_at {base prot : Nat → Prop} (R : ObjsRel base prot objs blk w) {k : Nat} {o : Obj} {i : Nat} {e : PV} {g : Nat} (h1 : objs[k]? = some o) (h2 : o.live = true) (h3 : o.xs[i]? = some e) (hb : blk k = some g) (hty : o.ty ≠ MT) :
    e.cells.length = o.sz ∧ At (RepS w (okL base objs blk) objs blk) w g (i * o.sz) e := by
  have h := R.ob k o h1 h2
  unfold ObjRep at h
  rw [hb] at h
  obtain ⟨c, x1, x2, x3⟩ := h
  rw [q28 hty] at x1
  obtain ⟨y1, y2⟩ := x3 i e h3
  refine ⟨y1, fun j p hp => ?_⟩
  obtain ⟨v, z1, z2⟩ := y2 j p hp
  exact ⟨v, by simp [World.cell?, x1, z1], z2⟩
theorem RepT.optr {k ver i f : Nat} {v : Value} (h : RepT w ok objs blk (.optr k ver i f) v) {o : Obj} (h1 : objs[k]? = some o) (h2 : o.live = true) (h3 : o.ver = ver) :
    ∃ g, blk k = some g ∧ v = .pointer (some ⟨g, i * o.sz + f, none⟩) ∧ o.ty ≠ MT := by
  obtain ⟨_, o', g1, _, g3⟩ := h
  rw [h1] at g1
  cases g1
  obtain ⟨x1, g, x2, x3⟩ := g3 h2 h3
  exact ⟨g, x2, x3, x1⟩
theorem RepT.omp {k ver : Nat} {v : Value} (h : RepT w ok objs blk (.omp k ver) v) {o : Obj} (h1 : objs[k]? = some o) (h2 : o.live = true) (h3 : o.ver = ver) :
    ∃ g, blk k = some g ∧ v = .map (some g) ∧ o.ty = MT := by
  obtain ⟨_, o', g1, _, g3⟩ := h
  rw [h1] at g1
  cases g1
  obtain ⟨x1, g, x2, x3⟩ := g3 h2 h3
  exact ⟨g, x2, x3, x1⟩
theorem RepT.osl {k ver : Nat} {v : Value} (h : RepT w ok objs blk (.osl k ver) v) {o : Obj} (h1 : objs[k]? = some o) (h2 : o.live = true) (h3 : o.ver = ver) : Hdr w blk k o v := by
  obtain ⟨_, o', g1, _, g3⟩ := h
  rw [h1] at g1
  cases g1
  exact (g3 h2 h3).2
theorem RepT.osl_ty {k ver : Nat} {v : Value} (h : RepT w ok objs blk (.osl k ver) v) {o : Obj} (h1 : objs[k]? = some o) (h2 : o.live = true) (h3 : o.ver = ver) : o.ty ≠ MT := by
  obtain ⟨_, o', g1, _, g3⟩ := h
  rw [h1] at g1
  cases g1
  exact (g3 h2 h3).1
end
end Lp

/-! LpE -/

namespace Lp
open Go
section
variable {P : Program} {base prot : Nat → Prop} {w0 : Wz} {S : St} {blk : Nat → Option Nat} {a : Act} {w : World} {D : TypeId → TInfo}
theorem q3q {cs : List PV} (h : cs.all (fun c => !c.isAgg) = true) : ∀ c ∈ cs, c.isAgg = false := by
  intro c hc; simpa using List.all_eq_true.1 h c hc
theorem cells_sub (cs : List PV) (o n : Nat) (agg : Bool) (hl : o + n ≤ cs.length) (h1 : agg = false → n = 1) (hd : cs.all (fun c => !c.isAgg) = true) :
    (sub cs o n agg).cells.length = n ∧ (sub cs o n agg).isAgg = agg := by
  unfold sub
  cases agg with
  | true => simp only [if_true, PV.cells, PV.isAgg, List.length_take, List.length_drop, and_true]; omega
  | false =>
    have := h1 rfl
    subst this
    simp only [Bool.false_eq_true, if_false]
    rw [List.getD_eq_getElem?_getD, List.getElem?_eq_getElem (by omega), Option.getD_some]
    have hna := q3q hd _ (List.getElem_mem (l := cs) (n := o) (by omega))
    revert hna
    cases cs[o] <;> simp [PV.isAgg, PV.cells]
theorem snd_load {t : TypeId} {x : Operand} {o : Oper} {K : KT} (ho : o.op = .load t x) (hD : ∀ t, TOk P t (D t)) (R : Rel base prot w0 S blk a w) (h : loadR (D t) (S.ev x) S.objs K) :
    Out P base prot w0 S o a w K := by
  have hx := R.ev x
  unfold loadR at h
  split at h
  · rename_i p e
    rw [e] at hx
    obtain ⟨hk, h1, h2, h3⟩ := h
    have hx' := hx.addr
    generalize hv : a.eval x = v at hx'
    cases hx' with
    | addr _ b off vs hok hcell hrep =>
      obtain ⟨u, g1, g2⟩ := q2e (hD t) hk (At.rep vs hcell hrep) h1 h2
      exact .pure R (by simp [execOp, ho, hv, Instr.loadAt, Instr.sureAddr, g1]) h3 (q87 g2)
  · rename_i k ver i f e
    rw [e] at hx
    obtain ⟨ob, el, h1, h2, h3, h4, hk, h5, h6, h7, h8⟩ := h
    obtain ⟨g, hb, hv, hty⟩ := hx.optr h1 h2 h3
    obtain ⟨y1, y2⟩ := obj_at R.objs h1 h2 h4 hb hty
    have hat : At (RepS w (okL base S.objs blk) S.objs blk) w g (i * ob.sz) (.agg el.cells) := y2
    have hs := At.sub hat f (D t).size (D t).agg h5 h6 (q3q h7)
    obtain ⟨c1, c2⟩ := cells_sub el.cells f _ _ h5 h6 h7
    obtain ⟨u, g1, g2⟩ := q2e (hD t) hk hs c1 c2
    exact .pure R (by simp [execOp, ho, hv, Instr.loadAt, Instr.sureAddr, g1]) h8 (q6n g2)
  · exact h.elim
theorem q5x {b off : Nat} {f : Field} {n : Nat} (hs : (Go.sizeOf f.type).run P w = .ok n w) (hn : n ≠ 0) : (fieldPlace ⟨b, off, none⟩ f).run P w = .ok ⟨b, off + f.offset, none⟩ w := by
  simp [fieldPlace, hs, hn, add_lit]
theorem q4u {t : TypeId} {f : Nat} {K : Nat → TInfo → Prop} (hD : ∀ t, TOk P t (D t)) (h : q01 D t f K) :
    ∃ (fl : Array Field) (fd : Field), P.underlying t = some (.struct fl) ∧ fl[f]? = some fd ∧ (D fd.type).kind ≠ .none ∧ (D fd.type).size ≠ 0 ∧ K fd.offset (D fd.type) := by
  unfold q01 at h
  split at h
  · rename_i fs hk
    obtain ⟨x, h1, h2, h3, h4⟩ := h
    have := (hD t).resolve_left (by rw [hk]; simp)
    rw [hk] at this
    obtain ⟨_, fl, hu, hm⟩ := this
    rw [← hm, List.getElem?_map] at h1
    cases hf : fl.toList[f]? with
    | none => rw [hf] at h1; simp at h1
    | some fd =>
      rw [hf] at h1
      simp at h1
      subst h1
      exact ⟨fl, fd, hu, by simpa using hf, h2, h3, h4⟩
  · exact h.elim
theorem snd_fieldAddr {t : TypeId} {x : Operand} {f : Nat} {o : Oper} {K : KT} (ho : o.op = .fieldAddr t x f) (hD : ∀ t, TOk P t (D t)) (R : Rel base prot w0 S blk a w) (h : q0i D t (S.ev x) f S.objs K) :
    Out P base prot w0 S o a w K := by
  have hx := R.ev x
  unfold q0i at h
  split at h
  · rename_i cs e
    rw [e] at hx
    obtain ⟨fl, fd, hu, hf, hk, hs, h1, h2, h3, h4⟩ := q4u hD h
    have hx' := hx.addr
    generalize hv : a.eval x = v at hx'
    cases hx' with
    | addr _ b off vs hok hcell hrep =>
      have hat := At.sub (At.rep vs hcell hrep) fd.offset (D fd.type).size (D fd.type).agg h1 h2 (q3q h3)
      refine .pure R (v := .pointer (some ⟨b, off + fd.offset, none⟩)) ?_ h4 (.of_rep (.ofAt hok hat))
      simp [execOp, ho, hv, Instr.fieldAt, run_underlying hu, hf, Instr.sureAddr, q5x ((hD fd.type).run_size hk w) hs]
  · rename_i k ver i f' e
    rw [e] at hx
    obtain ⟨ob, h1, h2, h3, h⟩ := h
    obtain ⟨fl, fd, hu, hf, hk, hs, h4⟩ := q4u hD h
    obtain ⟨g, hb, hv, hty⟩ := hx.optr h1 h2 h3
    refine .pure R (v := .pointer (some ⟨g, i * ob.sz + f' + fd.offset, none⟩)) ?_ h4 ?_
    · simp [execOp, ho, hv, Instr.fieldAt, run_underlying hu, hf, Instr.sureAddr, q5x ((hD fd.type).run_size hk w) hs]
    · exact ⟨rfl, ob, h1, by omega, fun _ _ => ⟨hty, g, hb, by rw [Nat.add_assoc]⟩⟩
  · exact h.elim
theorem getElem_mk {vs : List Value} {j : Nat} {v : Value} (h : vs[j]? = some v) : (Array.mk vs)[j]? = some v := by simpa using h
theorem run_part {t : TypeId} {ti : TInfo} (ht : TOk P t ti) (hk : ti.kind ≠ .none) {R : PV → Value → Prop} {cs : List PV} {vs : List Value} (h : RepL R cs vs) (off : Nat) (hl : off + ti.size ≤ cs.length) (hs : ti.size ≠ 0) :
    ∃ v, (part t ⟨vs⟩ off).run P w = .ok v w ∧ (if ti.agg then ∃ us, v = .agg ⟨us⟩ ∧ RepL R ((cs.drop off).take ti.size) us else R (cs.getD off .dead) v) := by
  unfold part
  cases ha : ti.agg with
  | true =>
    refine ⟨.agg ⟨(vs.drop off).take ti.size⟩, ?_, ?_⟩
    · simp only [Sem.run_bind, ht.run_isAgg hk, Result.andThen_ok, ha, if_true, ht.run_size hk]
      simp
    · simp only [if_true]
      refine ⟨_, rfl, by simp [h.1], fun i p v h1 h2 => ?_⟩
      rw [List.getElem?_take] at h1 h2
      split at h1
      · rename_i hi
        rw [if_pos hi] at h2
        rw [List.getElem?_drop] at h1 h2
        exact h.2 _ _ _ h1 h2
      · cases h1
  | false =>
    have ho : off < cs.length := by omega
    have ho' : off < vs.length := by rw [← h.1]; exact ho
    refine ⟨vs[off], ?_, ?_⟩
    · simp only [Sem.run_bind, ht.run_isAgg hk, Result.andThen_ok, ha, Bool.false_eq_true, if_false]
      rw [getElem_mk (List.getElem?_eq_getElem ho')]
      rfl
    · simp only [Bool.false_eq_true, if_false]
      rw [List.getD_eq_getElem?_getD, List.getElem?_eq_getElem ho, Option.getD_some]
      exact h.2 off _ _ (List.getElem?_eq_getElem ho) (List.getElem?_eq_getElem ho')
theorem repT_sub {ok : Nat → Prop} {objs : List Obj} {cs : List PV} {off n : Nat} {agg : Bool} {v : Value} (h : if agg then ∃ us, v = .agg ⟨us⟩ ∧ RepL (RepS w ok objs blk) ((cs.drop off).take n) us else RepS w ok objs blk (cs.getD off .dead) v) :
    RepT w ok objs blk (sub cs off n agg) v := by
  unfold sub
  cases agg with
  | true => simp only [if_true] at h ⊢; exact h
  | false => simp only [Bool.false_eq_true, if_false] at h ⊢; exact .of_repS h
theorem snd_field {t : TypeId} {x : Operand} {f : Nat} {o : Oper} {K : KT} (ho : o.op = .field t x f) (hD : ∀ t, TOk P t (D t)) (R : Rel base prot w0 S blk a w) (h : q4n D t (S.ev x) f S.objs K) :
    Out P base prot w0 S o a w K := by
  have hx := R.ev x
  unfold q4n at h
  split at h
  · rename_i cs e
    rw [e] at hx
    obtain ⟨fl, fd, hu, hf, hk, hs, h1, h2⟩ := q4u hD h
    obtain ⟨vs, hv, hr⟩ := hx
    obtain ⟨v, g1, g2⟩ := run_part (P := P) (w := w) (hD fd.type) hk hr fd.offset h1 hs
    refine .pure R (v := v) ?_ h2 (repT_sub g2)
    simp [execOp, ho, hv, Instr.field, run_underlying hu, hf, asAgg, g1]
  · exact h.elim
theorem TOk.slice {t : TypeId} {ti : TInfo} {e : TypeId} (h : TOk P t ti) (hk : ti.kind = .slice e) : P.underlying t = some (.slice e) := by
  have := h.resolve_left (by rw [hk]; simp)
  rw [hk] at this; exact this.2
theorem TOk.arr {t : TypeId} {ti : TInfo} {e : TypeId} {n : Nat} (h : TOk P t ti) (hk : ti.kind = .array n e) : P.underlying t = some (.array n e) := by
  have := h.resolve_left (by rw [hk]; simp)
  rw [hk] at this; exact this.2
theorem TOk.strT {t : TypeId} {ti : TInfo} (h : TOk P t ti) (hk : ti.kind = .str) : P.underlying t = some .string := by
  have := h.resolve_left (by rw [hk]; simp)
  rw [hk] at this; exact this.2
theorem snd_indexAddr {t : TypeId} {x i : Operand} {o : Oper} {K : KT} (ho : o.op = .indexAddr t x i) (hD : ∀ t, TOk P t (D t)) (R : Rel base prot w0 S blk a w) (h : q0j D t (S.ev x) (S.ev i) S.objs K) :
    Out P base prot w0 S o a w K := by
  have hx := R.ev x
  have hi := R.ev i
  unfold q0j at h
  split at h
  · rename_i e sz xs q k n hk e1 e2
    rw [e1] at hx; rw [e2] at hi
    have hi := hi.int
    obtain ⟨hke, h0, y, h1, h2, h3⟩ := h
    have hu := (hD t).slice hk
    have hlt : n.toNat < xs.length := (List.getElem?_eq_some_iff.1 h1).1
    have hx' := hx.sl
    generalize hv : a.eval x = v at hx'
    cases hx' with
    | slnil => simp at h1
    | slz => simp at h1
    | sl _ _ _ hq b off cap vs hok hlen hcap hsz hcell hrep =>
      have hat : At (Rep w (okL base S.objs blk)) w b (off + n.toNat * sz) y :=
        At.rep (vs n.toNat) (fun j p hp => hcell n.toNat y j p h1 hp) (fun j p hp => hrep n.toNat y j p h1 hp)
      refine .pure R (v := .pointer (some ⟨b, off + n.toNat * sz, none⟩)) ?_ h3 (.of_rep (.ofAt (hok (by rintro rfl; simp at h1)) hat))
      have hn : n < (xs.length : Int) := by omega
      simp [execOp, ho, hv, hi, Instr.indexAt, asIntOf, run_underlying hu, h0, hn, (hD e).run_size hke, h2, add_lit]
  · rename_i e k ver k' n hk e1 e2
    rw [e1] at hx; rw [e2] at hi
    have hi := hi.int
    obtain ⟨hke, h0, ob, h1, h2, h3, h4, h5, h6⟩ := h
    have hu := (hD t).slice hk
    have hh := hx.osl h1 h2 h3
    have hty := hx.osl_ty h1 h2 h3
    unfold Hdr at hh
    cases hb : blk k with
    | none => rw [hb] at hh; rw [hh.2] at h4; simp at h4; omega
    | some g =>
      rw [hb] at hh
      obtain ⟨cap, c, hv, _, _⟩ := hh
      refine .pure R (v := .pointer (some ⟨g, n.toNat * ob.sz + 0, none⟩)) ?_ h6 ?_
      · simp [execOp, ho, hv, hi, Instr.indexAt, asIntOf, run_underlying hu, h0, h4, (hD e).run_size hke, h5, add_lit]
      · exact ⟨rfl, ob, h1, by omega, fun _ _ => ⟨hty, g, hb, rfl⟩⟩
  · rename_i m e cs k n hk e1 e2
    rw [e1] at hx; rw [e2] at hi
    have hi := hi.int
    obtain ⟨hke, h0, hm, h1, h2, h3, h4⟩ := h
    have hu := (hD t).arr hk
    have hx' := hx.addr
    generalize hv : a.eval x = v at hx'
    cases hx' with
    | addr _ b off vs hok hcell hrep =>
      have hat := At.sub (At.rep vs hcell hrep) (n.toNat * (D e).size) (D e).size (D e).agg (by rw [Nat.add_mul] at h1; omega) h2 (q3q h3)
      refine .pure R (v := .pointer (some ⟨b, off + n.toNat * (D e).size, none⟩)) ?_ h4 (.of_rep (.ofAt hok hat))
      simp [execOp, ho, hv, hi, Instr.indexAt, Instr.sureAddr, asIntOf, run_underlying hu, h0, hm, (hD e).run_size hke, add_lit]
  · rename_i m e k ver i' f k' n hk e1 e2
    rw [e1] at hx; rw [e2] at hi
    have hi := hi.int
    obtain ⟨hke, h0, hm, ob, h1, h2, h3, h4⟩ := h
    have hu := (hD t).arr hk
    obtain ⟨g, hb, hv, hty⟩ := hx.optr h1 h2 h3
    refine .pure R (v := .pointer (some ⟨g, i' * ob.sz + f + n.toNat * (D e).size, none⟩)) ?_ h4 ?_
    · simp [execOp, ho, hv, hi, Instr.indexAt, Instr.sureAddr, asIntOf, run_underlying hu, h0, hm, (hD e).run_size hke, add_lit]
    · exact ⟨rfl, ob, h1, by omega, fun _ _ => ⟨hty, g, hb, by rw [Nat.add_assoc]⟩⟩
  · exact h.elim
theorem snd_index {t : TypeId} {x i : Operand} {o : Oper} {K : KT} (ho : o.op = .index t x i) (hD : ∀ t, TOk P t (D t)) (R : Rel base prot w0 S blk a w) (h : q2z D t (S.ev x) (S.ev i) S.objs K) :
    Out P base prot w0 S o a w K := by
  have hx := R.ev x
  have hi := R.ev i
  unfold q2z at h
  split at h
  · rename_i s k n hk e1 e2
    rw [e1] at hx; rw [e2] at hi
    have hi := hi.int
    have hv := hx.str
    obtain ⟨h0, b, h1, h2⟩ := h
    have hu := (hD t).strT hk
    refine .pure R (v := .int .u8 b.toNat) ?_ h2 (.of_rep (.int _ _))
    have hg : (ByteArray.mk ⟨s⟩)[n.toNat]? = some b := by
      have hl : n.toNat < s.length := (List.getElem?_eq_some_iff.1 h1).1
      rw [getElem?_pos (ByteArray.mk ⟨s⟩) n.toNat (show n.toNat < (ByteArray.mk ⟨s⟩).size from hl)]
      have := (List.getElem?_eq_some_iff.1 h1).2
      exact congrArg some this
    simp [execOp, ho, hv, hi, Instr.index, asIntOf, run_underlying hu, h0, hg]
  · rename_i m e cs k n hk e1 e2
    rw [e1] at hx; rw [e2] at hi
    have hi := hi.int
    obtain ⟨hke, h0, hm, h1, hs, h4⟩ := h
    have hu := (hD t).arr hk
    obtain ⟨vs, hv, hr⟩ := hx
    obtain ⟨v, g1, g2⟩ := run_part (P := P) (w := w) (hD e) hke hr (n.toNat * (D e).size) (by rw [Nat.add_mul] at h1; omega) hs
    refine .pure R (v := v) ?_ h4 (repT_sub g2)
    simp [execOp, ho, hv, hi, Instr.index, asIntOf, run_underlying hu, h0, hm, (hD e).run_size hke, g1]
  · exact h.elim
theorem snd_len {t : TypeId} {x : Operand} {o : Oper} {K : KT} (ho : o.op = .call { callee := .builtin .len, args := #[x], argTypes := #[t] }) (hD : ∀ t, TOk P t (D t)) (R : Rel base prot w0 S blk a w) (h : lenR D t (S.ev x) S.objs K) :
    Out P base prot w0 S o a w K := by
  have hx := R.ev x
  unfold lenR at h
  split at h
  · rename_i s hk e1
    rw [e1] at hx
    have hv := hx.str
    exact .pure R (v := .int .i64 s.length) (by simp [execOp, ho, resolve, invoke, builtin, hv, Builtin.len_, run_underlying ((hD t).strT hk), goInt, size_mk]) h (.of_rep (.int _ _))
  · rename_i e sz xs q hk e1
    rw [e1] at hx
    have hx' := hx.sl
    generalize hv : a.eval x = v at hx'
    refine .pure R (v := .int .i64 xs.length) ?_ h (.of_rep (.int _ _))
    cases hx' <;> simp [execOp, ho, resolve, invoke, builtin, hv, Builtin.len_, run_underlying ((hD t).slice hk), goInt]
  · rename_i e k ver hk e1
    rw [e1] at hx
    obtain ⟨ob, h1, h2, h3, h4⟩ := h
    have hh := hx.osl h1 h2 h3
    refine .pure R (v := .int .i64 ob.xs.length) ?_ h4 (.of_rep (.int _ _))
    unfold Hdr at hh
    cases hb : blk k with
    | none =>
      rw [hb] at hh
      obtain ⟨hv, hn⟩ := hh
      simp [execOp, ho, resolve, invoke, builtin, hv, hn, Builtin.len_, run_underlying ((hD t).slice hk), goInt]
    | some g =>
      rw [hb] at hh
      obtain ⟨cap, c, hv, _, _⟩ := hh
      simp [execOp, ho, resolve, invoke, builtin, hv, Builtin.len_, run_underlying ((hD t).slice hk), goInt]
  · exact h.elim
theorem q47 {x : Operand} {d : Int} {K : Int → Prop} (R : Rel base prot w0 S blk a w) (h : q03 (some (S.ev x)) d K) : ∃ k n, a.eval x = .int k n ∧ K n := by
  have hx := R.ev x
  unfold q03 at h
  split at h
  · rename_i heq; cases heq
  · rename_i k n heq
    simp only [Option.some.injEq] at heq
    rw [heq] at hx
    exact ⟨k, n, hx.int, h⟩
  · exact h.elim
theorem q1s {v : Value} {k : IntKind} {n : Int} {y : Nat} {code : BoundsCode} (hv : v = .int k n) (h0 : 0 ≤ n) (h1 : n ≤ y) : (Instr.sliceBound v y code).run P w = .ok n.toNat w := by
  subst hv
  simp [Instr.sliceBound, asIntOf, h0, h1]
theorem q48 (d : Int) (K : Int → Prop) : q03 none d K = K d := rfl
theorem q3r {lo hi : Option Operand} {len cap : Nat} {b : Bool} {K : Int → Int → Prop} (R : Rel base prot w0 S blk a w) (hlc : len ≤ cap)
    (h : q03 (lo.map S.ev) 0 fun l => q03 (hi.map S.ev) len fun h => 0 ≤ l ∧ l ≤ h ∧ h ≤ len ∧ K l h) :
    ∃ l h : Int, (Instr.sliceBounds b len cap (lo.map a.eval) (hi.map a.eval) none).run P w = .ok (l.toNat, h.toNat, cap) w ∧ 0 ≤ l ∧ l ≤ h ∧ h ≤ len ∧ K l h := by
  cases lo with
  | none =>
    rw [Option.map_none, q48] at h
    cases hi with
    | none =>
      rw [Option.map_none, q48] at h
      exact ⟨0, len, by simp [Instr.sliceBounds], h⟩
    | some y =>
      obtain ⟨k, n, hv, h⟩ := q47 R h
      exact ⟨0, n, by simp [Instr.sliceBounds, q1s hv (by omega) (show n ≤ (cap : Int) by omega)], h⟩
  | some x =>
    obtain ⟨k, n, hv, h⟩ := q47 R h
    cases hi with
    | none =>
      rw [Option.map_none, q48] at h
      exact ⟨n, len, by simp [Instr.sliceBounds, q1s hv h.1 (show n ≤ (len : Int) by omega)], h⟩
    | some y =>
      obtain ⟨k', m, hv', h⟩ := q47 R h
      exact ⟨n, m, by simp [Instr.sliceBounds, q1s hv' (by omega) (show m ≤ (cap : Int) by omega), q1s hv h.1 (show n ≤ ((m.toNat : Nat) : Int) by omega)], h⟩
theorem extract_mk (s : List UInt8) (l h : Nat) : (ByteArray.mk ⟨s⟩).extract l h = ByteArray.mk ⟨(s.take h).drop l⟩ := by
  apply ByteArray.ext
  rw [ByteArray.data_extract]
  apply Array.ext'
  simp [List.drop_take]
end
end Lp

/-! LpF -/

namespace Lp
open Go
section
variable {P : Program} {base prot : Nat → Prop} {w0 : Wz} {S : St} {blk : Nat → Option Nat} {a : Act} {w : World} {D : TypeId → TInfo} {objs : List Obj}
theorem Rel.change {w' : World} {objs' : List Obj} {blk' : Nat → Option Nat} (R : Rel base prot w0 S blk a w) (hs : w.heap.size ≤ w'.heap.size)
    (hw : ∀ b x, q0h S.objs blk b → w.heap[b]? = some x → w'.heap[b]? = some x) (hok : ∀ b, b < w.heap.size → okL base S.objs blk b → okL base objs' blk' b)
    (ho : ObjsTo w w' S.objs objs' blk blk') (hobj : ObjsRel base prot objs' blk' w') (hsm : Sm w w') : Rel base prot w0 ⟨S.tmps, objs'⟩ blk' a w' := by
  refine ⟨R.nodef.mono (fun b hb h => ⟨hok b hb h.1, h.2⟩) (fun b x h => hw b x h.1.2), R.tsz, fun t p hp => (R.tm t p hp).mono hs hok (fun b x h => hw b x h.2) ho, hobj, R.pr, fun b hb => ?_, Nat.le_trans R.gr hs, R.pb, fun x hx => (R.ext x hx).mono hs hok (fun b x h => hw b x h.2) ho, R.exn, R.sm.trans hsm, R.gl⟩
  have h1 := R.fr b hb
  have h2 := R.pr b hb
  cases hx : w0.heap[b]? with
  | none => rw [Array.getElem?_eq_none_iff] at hx; omega
  | some x =>
    rw [hx] at h1
    rw [hw b x (fun k o h1 h2 h3 => R.objs.np k o b h1 h2 h3 hb) h1]
def q0f (blk : Nat → Option Nat) (n : Nat) (g : Option Nat) : Nat → Option Nat := fun j => if j = n then g else blk j
theorem q2s {o1 : Obj} {k : Nat} {o : Obj} (h : (objs ++ [o1])[k]? = some o) : (k < objs.length ∧ objs[k]? = some o) ∨ (k = objs.length ∧ o = o1) := by
  rw [List.getElem?_append] at h
  split at h
  · rename_i hk; exact .inl ⟨hk, h⟩
  · rename_i hk
    have : k - objs.length = 0 := by
      cases hj : k - objs.length with
      | zero => rfl
      | succ j => rw [hj] at h; simp at h
    rw [this] at h
    simp at h
    exact .inr ⟨by omega, h.symm⟩
theorem Rel.addObj {w' : World} {o1 : Obj} {gb : Option Nat} (R : Rel base prot w0 S blk a w) (hg : Grew w w') (hgb : ∀ g, gb = some g → w.heap.size ≤ g)
    (hobj : (∀ p v, RepS w (okL base S.objs blk) S.objs blk p v → RepS w' (okL base (S.objs ++ [o1]) (q0f blk S.objs.length gb)) (S.objs ++ [o1]) (q0f blk S.objs.length gb) p v) →
      ObjRep w' (okL base (S.objs ++ [o1]) (q0f blk S.objs.length gb)) (S.objs ++ [o1]) (q0f blk S.objs.length gb) S.objs.length o1) :
    Rel base prot w0 ⟨S.tmps, S.objs ++ [o1]⟩ (q0f blk S.objs.length gb) a w' := by
  have hb : ∀ k, k < S.objs.length → q0f blk S.objs.length gb k = blk k := fun k hk => by unfold q0f; rw [if_neg (by omega)]
  have hb' : q0f blk S.objs.length gb S.objs.length = gb := by unfold q0f; rw [if_pos rfl]
  have hold : ∀ (k : Nat) (o : Obj), S.objs[k]? = some o → (S.objs ++ [o1])[k]? = some o := by
    intro k o h
    have hk := (List.getElem?_eq_some_iff.1 h).1
    rw [List.getElem?_append, if_pos hk]; exact h
  have ho : ObjsTo w w' S.objs (S.objs ++ [o1]) blk (q0f blk S.objs.length gb) := by
    intro k o h
    have hk := (List.getElem?_eq_some_iff.1 h).1
    exact ⟨o, hold k o h, Nat.le_refl _, fun hl _ => ⟨hl, hb k hk, rfl, rfl, fun _ => rfl, fun g c _ hc => ⟨c, hg.2.1 g _ hc, rfl⟩⟩⟩
  have hlt : ∀ (k : Nat) (o : Obj) (g : Nat), S.objs[k]? = some o → o.live = true → blk k = some g → g < w.heap.size := by
    intro k o g h1 h2 h3
    have := R.objs.ob k o h1 h2
    unfold ObjRep at this
    rw [h3] at this
    obtain ⟨c, x, _⟩ := this
    exact (Array.getElem?_eq_some_iff.1 x).1
  have hok : ∀ b, b < w.heap.size → okL base S.objs blk b → okL base (S.objs ++ [o1]) (q0f blk S.objs.length gb) b := by
    intro b hbl hb0
    refine ⟨hb0.1, fun k o h1 h2 => ?_⟩
    rcases q2s h1 with ⟨hk, h1⟩ | ⟨rfl, rfl⟩
    · rw [hb k hk]; exact hb0.2 k o h1 h2
    · rw [hb']; intro e; have := hgb b e; omega
  refine R.change hg.1 (fun b x _ h => hg.2.1 b x h) hok ho ⟨?_, ?_, ?_⟩ hg.2.2
  · intro k o h1 h2
    rcases q2s h1 with ⟨hk, h1'⟩ | ⟨rfl, rfl⟩
    · have hh := R.objs.ob k o h1' h2
      unfold ObjRep at hh ⊢
      rw [hb k hk]
      cases hbk : blk k with
      | none => rw [hbk] at hh; exact hh
      | some g =>
        rw [hbk] at hh
        obtain ⟨c', x1, x2, x3⟩ := hh
        refine ⟨c', hg.2.1 g _ x1, x2, fun i x hx => ⟨(x3 i x hx).1, fun j p hp => ?_⟩⟩
        obtain ⟨v, y1, y2⟩ := (x3 i x hx).2 j p hp
        exact ⟨v, y1, y2.mono hg.1 hok (fun b x _ h => hg.2.1 b x h) ho⟩
    · exact hobj fun p v h => h.mono hg.1 hok (fun b x _ h => hg.2.1 b x h) ho
  · intro k k' o o' g hne h1 h2 h3 h4 h5 h6
    rcases q2s h1 with ⟨hk, h1'⟩ | ⟨ek, _⟩
    · rw [hb k hk] at h5
      rcases q2s h3 with ⟨hk', h3'⟩ | ⟨ek', _⟩
      · rw [hb k' hk'] at h6
        exact R.objs.dis k k' o o' g hne h1' h2 h3' h4 h5 h6
      · rw [ek', hb'] at h6
        have := hlt k o g h1' h2 h5
        have := hgb g h6
        omega
    · rw [ek, hb'] at h5
      rcases q2s h3 with ⟨hk', h3'⟩ | ⟨ek', _⟩
      · rw [hb k' hk'] at h6
        have := hlt k' o' g h3' h4 h6
        have := hgb g h5
        omega
      · exact hne (ek.trans ek'.symm)
  · intro k o g h1 h2 h3 h4
    rcases q2s h1 with ⟨hk, h1'⟩ | ⟨ek, _⟩
    · rw [hb k hk] at h3; exact R.objs.np k o g h1' h2 h3 h4
    · rw [ek, hb'] at h3
      have := R.pr g h4
      have := R.gr
      have := hgb g h3
      omega
theorem Rel.newObjG {w' : World} {sz : Nat} {xs : List PV} {ty : TypeId} {gb : Option Nat} (R : Rel base prot w0 S blk a w) (hg : Grew w w') (hgb : ∀ g, gb = some g → w.heap.size ≤ g)
    (hx : match gb with
      | none => xs = []
      | some g => ∃ c, w'.heap[g]? = some (hobj ty c) ∧ fits ⟨ty, sz, xs, true, 1⟩ c ∧
          ∀ (i : Nat) (x : PV), xs[i]? = some x → x.cells.length = sz ∧ ∀ (j : Nat) (p : PV), x.cells[j]? = some p → ∃ v, c[i * sz + j]? = some v ∧ RepS w (okL base S.objs blk) S.objs blk p v) :
    Rel base prot w0 ⟨S.tmps, newObj S.objs ty sz xs⟩ (q0f blk S.objs.length gb) a w' := by
  refine R.addObj (o1 := ⟨ty, sz, xs, true, 1⟩) hg hgb fun hr => ?_
  unfold ObjRep
  have hb' : q0f blk S.objs.length gb S.objs.length = gb := by unfold q0f; rw [if_pos rfl]
  rw [hb']
  cases gb with
  | none => exact hx
  | some g =>
    obtain ⟨c, hnew, hl, hx⟩ := hx
    refine ⟨c, hnew, hl, fun i x hxi => ⟨(hx i x hxi).1, fun j p hp => ?_⟩⟩
    obtain ⟨v, y1, y2⟩ := (hx i x hxi).2 j p hp
    exact ⟨v, y1, hr _ _ y2⟩
theorem Rel.newObj {w' : World} {sz : Nat} {xs : List PV} {c : Array Value} {ty : TypeId} (R : Rel base prot w0 S blk a w) (hw : w'.heap = w.heap.push (hobj ty c)) (hsm : Sm w w')
    (hl : fits ⟨ty, sz, xs, true, 1⟩ c)
    (hx : ∀ (i : Nat) (x : PV), xs[i]? = some x → x.cells.length = sz ∧ ∀ (j : Nat) (p : PV), x.cells[j]? = some p → ∃ v, c[i * sz + j]? = some v ∧ RepS w (okL base S.objs blk) S.objs blk p v) :
    Rel base prot w0 ⟨S.tmps, newObj S.objs ty sz xs⟩ (q0f blk S.objs.length (some w.heap.size)) a w' :=
  R.newObjG (.push hw hsm) (fun g h => by cases h; exact Nat.le_refl _) ⟨c, by rw [hw]; simp, hl, hx⟩
theorem Rel.setObj {w' : World} {k : Nat} {o o' : Obj} {gb : Option Nat} (R : Rel base prot w0 S blk a w) (hsm : Sm w w') (h1 : S.objs[k]? = some o) (h2 : o.live = true) (hl' : o'.live = true)
    (hs : w.heap.size ≤ w'.heap.size) (hw : ∀ b x, blk k ≠ some b → w.heap[b]? = some x → w'.heap[b]? = some x)
    (hg : ∀ g, gb = some g → blk k = some g ∨ w.heap.size ≤ g)
    (hv : o.ver ≤ o'.ver) (hsame : o'.ver = o.ver → gb = blk k ∧ o'.sz = o.sz ∧ o'.ty = o.ty ∧ (o.ty ≠ MT → o'.xs.length = o.xs.length) ∧ ∀ g c, blk k = some g → w.heap[g]? = some (.cells c o.ty (0, 0)) → ∃ c', w'.heap[g]? = some (.cells c' o.ty (0, 0)) ∧ c'.size = c.size)
    (hobj : (∀ p v, RepS w (okL base S.objs blk) S.objs blk p v → RepS w' (okL base (S.objs.set k o') (q0f blk k gb)) (S.objs.set k o') (q0f blk k gb) p v) →
      ObjRep w' (okL base (S.objs.set k o') (q0f blk k gb)) (S.objs.set k o') (q0f blk k gb) k o') :
    Rel base prot w0 ⟨S.tmps, S.objs.set k o'⟩ (q0f blk k gb) a w' := by
  have hk : k < S.objs.length := (List.getElem?_eq_some_iff.1 h1).1
  have hbk : q0f blk k gb k = gb := by unfold q0f; rw [if_pos rfl]
  have hbo : ∀ j, j ≠ k → q0f blk k gb j = blk j := fun j hj => by unfold q0f; rw [if_neg hj]
  have hget : ∀ (j : Nat) (ob : Obj), (S.objs.set k o')[j]? = some ob → (j = k ∧ ob = o') ∨ (j ≠ k ∧ S.objs[j]? = some ob) := by
    intro j ob h
    rw [List.getElem?_set] at h
    split at h
    · rename_i e; subst e; simp at h; exact .inl ⟨rfl, h.symm⟩
    · rename_i e; exact .inr ⟨fun h => e h.symm, h⟩
  have hlt : ∀ (j : Nat) (ob : Obj) (g : Nat), S.objs[j]? = some ob → ob.live = true → blk j = some g → g < w.heap.size := by
    intro j ob g h1 h2 h3
    have := R.objs.ob j ob h1 h2
    unfold ObjRep at this
    rw [h3] at this
    obtain ⟨c, x, _⟩ := this
    exact (Array.getElem?_eq_some_iff.1 x).1
  have hother : ∀ (j : Nat) (ob : Obj) (g : Nat), j ≠ k → S.objs[j]? = some ob → ob.live = true → blk j = some g → blk k ≠ some g :=
    fun j ob g hj g1 g2 g3 g4 => R.objs.dis j k ob o g hj g1 g2 h1 h2 g3 g4
  have ho : ObjsTo w w' S.objs (S.objs.set k o') blk (q0f blk k gb) := by
    intro j ob h
    by_cases hj : j = k
    · subst hj
      rw [h1] at h; cases h
      refine ⟨o', by rw [List.getElem?_set]; simp [hk], hv, fun _ e => ?_⟩
      obtain ⟨e1, e2, e3, e4, e5⟩ := hsame e
      exact ⟨h2, by rw [hbk, e1], e2, e3, e4, e5⟩
    · refine ⟨ob, by rw [List.getElem?_set, if_neg (fun e => hj e.symm)]; exact h, Nat.le_refl _, fun hl _ => ⟨hl, hbo j hj, rfl, rfl, fun _ => rfl, fun g c hg hc => ⟨c, hw g _ ?_ hc, rfl⟩⟩⟩
      exact hother j ob g hj h hl hg
  have hok : ∀ b, b < w.heap.size → okL base S.objs blk b → okL base (S.objs.set k o') (q0f blk k gb) b := by
    intro b hb h0
    refine ⟨h0.1, fun j ob g1 g2 g3 => ?_⟩
    rcases hget j ob g1 with ⟨rfl, rfl⟩ | ⟨hj, g1⟩
    · rw [hbk] at g3
      rcases hg b g3 with h | h
      · exact h0.2 j o h1 h2 h
      · omega
    · rw [hbo j hj] at g3; exact h0.2 j ob g1 g2 g3
  have hw' : ∀ b x, q0h S.objs blk b → w.heap[b]? = some x → w'.heap[b]? = some x := fun b x h0 hx => hw b x (h0 k o h1 h2) hx
  refine R.change hs hw' hok ho ⟨?_, ?_, ?_⟩ hsm
  · intro j ob g1 g2
    rcases hget j ob g1 with ⟨rfl, rfl⟩ | ⟨hj, g1⟩
    · exact hobj fun p v h => h.mono hs hok (fun b x h => hw' b x h.2) ho
    · have hh := R.objs.ob j ob g1 g2
      unfold ObjRep at hh ⊢
      rw [hbo j hj]
      cases hbj : blk j with
      | none => rw [hbj] at hh; exact hh
      | some g =>
        rw [hbj] at hh
        obtain ⟨c', x1, x2, x3⟩ := hh
        refine ⟨c', hw g _ (hother j ob g hj g1 g2 hbj) x1, x2, fun i x hx => ⟨(x3 i x hx).1, fun m p hp => ?_⟩⟩
        obtain ⟨v, y1, y2⟩ := (x3 i x hx).2 m p hp
        exact ⟨v, y1, y2.mono hs hok (fun b x h => hw' b x h.2) ho⟩
  · intro j j' ob ob' g hne g1 g2 g3 g4 g5 g6
    rcases hget j ob g1 with ⟨ej, eo⟩ | ⟨hj, g1'⟩
    · rcases hget j' ob' g3 with ⟨ej', _⟩ | ⟨hj', g3'⟩
      · exact hne (ej.trans ej'.symm)
      · rw [ej, hbk] at g5; rw [hbo j' hj'] at g6
        rcases hg g g5 with h | h
        · exact R.objs.dis k j' o ob' g (fun e => hj' e.symm) h1 h2 g3' g4 h g6
        · have := hlt j' ob' g g3' g4 g6; omega
    · rcases hget j' ob' g3 with ⟨ej', _⟩ | ⟨hj', g3'⟩
      · rw [ej', hbk] at g6; rw [hbo j hj] at g5
        rcases hg g g6 with h | h
        · exact R.objs.dis j k ob o g hj g1' g2 h1 h2 g5 h
        · have := hlt j ob g g1' g2 g5; omega
      · rw [hbo j hj] at g5; rw [hbo j' hj'] at g6
        exact R.objs.dis j j' ob ob' g hne g1' g2 g3' g4 g5 g6
  · intro j ob g g1 g2 g3 g4
    rcases hget j ob g1 with ⟨rfl, rfl⟩ | ⟨hj, g1⟩
    · rw [hbk] at g3
      rcases hg g g3 with h | h
      · exact R.objs.np j o g h1 h2 h g4
      · have := R.pr g g4
        have := R.gr
        omega
    · rw [hbo j hj] at g3; exact R.objs.np j ob g g1 g2 g3 g4
end
end Lp

/-! LpG -/

namespace Lp
open Go
section
variable {P : Program} {base prot : Nat → Prop} {w0 : Wz} {S : St} {blk : Nat → Option Nat} {a : Act} {w : World} {D : TypeId → TInfo} {objs : List Obj} {ok : Nat → Prop}
theorem q2j {p : PV} {v : Value} (h : RepS w ok objs blk p v) (hp : p.storable = true) : v.oneCell' = true ∧ p.isAgg = false := by
  cases p with
  | dead => simp [PV.storable, PV.solid] at hp
  | agg cs => simp [PV.storable, PV.solid] at hp
  | tup cs => simp [PV.storable, PV.solid] at hp
  | cl sz xs => simp [PV.storable, PV.solid] at hp
  | osl k ver => exact ⟨h.1, rfl⟩
  | optr k ver i f => exact ⟨h.1, rfl⟩
  | omp k ver => exact ⟨h.1, rfl⟩
  | _ =>
    refine ⟨?_, rfl⟩
    have h' : Rep w ok _ v := h
    cases h' <;> rfl
theorem q4v {p : PV} {v : Value} (h : RepT w ok objs blk p v) (hp : p.storable = true) : RepS w ok objs blk p v := by
  cases p with
  | fn f a c => simp only [PV.storable, PV.solid, PV.ref, Bool.true_and, Bool.false_or] at hp; exact .of_rep (h.rep hp)
  | agg cs => simp [PV.storable, PV.solid] at hp
  | tup cs => simp [PV.storable, PV.solid] at hp
  | _ => exact h
theorem q1y {p : PV} {v : Value} (h : RepT w ok objs blk p v) (hp : p.cells.all PV.storable = true) :
    ∃ vs : List Value, v.cells = ⟨vs⟩ ∧ RepL (RepS w ok objs blk) p.cells vs ∧ ∀ u ∈ vs, u.oneCell' = true := by
  have one : ∀ (cs : List PV) (vs : List Value), cs.all PV.storable = true → RepL (RepS w ok objs blk) cs vs → ∀ u ∈ vs, u.oneCell' = true := by
    intro cs vs hc hr u hu
    obtain ⟨i, hi, rfl⟩ := List.mem_iff_getElem.1 hu
    have hi' : i < cs.length := by rw [hr.1]; exact hi
    exact (q2j (hr.2 i _ _ (List.getElem?_eq_getElem hi') (List.getElem?_eq_getElem hi)) (List.all_eq_true.1 hc _ (List.getElem_mem hi'))).1
  cases hx : p.isAgg with
  | true =>
    obtain ⟨cs, rfl⟩ : ∃ cs, p = .agg cs := by cases p <;> simp [PV.isAgg] at hx; exact ⟨_, rfl⟩
    obtain ⟨vs, rfl, hr⟩ := h
    exact ⟨vs, rfl, hr, one cs vs hp hr⟩
  | false =>
    have hc : p.cells = [p] := by cases p <;> simp [PV.isAgg] at hx <;> rfl
    rw [hc] at hp ⊢
    simp only [List.all_cons, List.all_nil, Bool.and_true] at hp
    have hs := q4v h hp
    have h1 := (q2j hs hp).1
    have hv : v.cells = #[v] := by cases v <;> simp [Value.oneCell'] at h1 <;> rfl
    refine ⟨[v], hv, ⟨rfl, fun i q u h1 h2 => ?_⟩, fun u hu => by simp at hu; exact hu ▸ h1⟩
    cases i with
    | zero => simp at h1 h2; subst h1; subst h2; exact hs
    | succ i => simp at h1
theorem RepL.get {R : PV → Value → Prop} {cs : List PV} {vs : List Value} (h : RepL R cs vs) {j : Nat} {p : PV} (hp : cs[j]? = some p) : ∃ v, vs[j]? = some v ∧ R p v := by
  have hj : j < cs.length := (List.getElem?_eq_some_iff.1 hp).1
  have hj' : j < vs.length := by rw [← h.1]; exact hj
  exact ⟨vs[j], List.getElem?_eq_getElem hj', h.2 j p _ hp (List.getElem?_eq_getElem hj')⟩
theorem Out.new {o : Oper} {K : KT} {ty : TypeId} {sz : Nat} {xs : List PV} {c : Array Value} {w' : World} {r : PV} {v : Value} (R : Rel base prot w0 S blk a w)
    (hty : ty ≠ MT) (hw : w'.heap = w.heap.push (.cells c ty (0, 0))) (hsm : Sm w w') (h : (execOp a.eval o).run P w = .ok (.value v) w') (hl : xs.length * sz ≤ c.size)
    (hx : ∀ (i : Nat) (x : PV), xs[i]? = some x → x.cells.length = sz ∧ ∀ (j : Nat) (p : PV), x.cells[j]? = some p → ∃ v, c[i * sz + j]? = some v ∧ RepS w (okL base S.objs blk) S.objs blk p v)
    {t : Nat} (hK : K r (newObj S.objs ty sz xs) t)
    (hr : RepT w' (okL base (newObj S.objs ty sz xs) (q0f blk S.objs.length (some w.heap.size))) (newObj S.objs ty sz xs) (q0f blk S.objs.length (some w.heap.size)) r v) : Out P base prot w0 S o a w K :=
  ⟨v, w', r, _, t, _, .inl h, hK, R.newObj (by rw [q28 hty]; exact hw) hsm (q4t hty hl) hx, hr, .of fun i x hxi j p hp => by
    obtain ⟨v, _, h⟩ := (hx i x hxi).2 j p hp
    exact q3a h⟩
theorem q9c (objs : List Obj) (ty : TypeId) (sz : Nat) (xs : List PV) : (newObj objs ty sz xs)[objs.length]? = some ⟨ty, sz, xs, true, 1⟩ := by
  unfold newObj; simp
theorem one_elem {sz : Nat} {p : PV} {vs : List Value} {R : PV → Value → Prop} (hp : p.cells.length = sz) (hr : RepL R p.cells vs) :
    ∀ (i : Nat) (x : PV), [p][i]? = some x → x.cells.length = sz ∧ ∀ (j : Nat) (q : PV), x.cells[j]? = some q → ∃ v, (Array.mk vs)[i * sz + j]? = some v ∧ R q v := by
  intro i x hx
  cases i with
  | zero =>
    simp at hx; subst hx
    refine ⟨hp, fun j q hq => ?_⟩
    obtain ⟨v, h1, h2⟩ := hr.get hq
    exact ⟨v, by simpa using h1, h2⟩
  | succ i => simp at hx
theorem q88 (objs : List Obj) (blk : Nat → Option Nat) (ty : TypeId) (sz : Nat) (xs : List PV) (w : World) (ok : Nat → Prop) (g : Nat) (hty : ty ≠ MT) :
    RepT w ok (newObj objs ty sz xs) (q0f blk objs.length (some g)) (.optr objs.length 1 0 0) (.pointer (some ⟨g, 0, none⟩)) :=
  ⟨rfl, _, q9c objs ty sz xs, Nat.le_refl _, fun _ _ => ⟨hty, g, by unfold q0f; rw [if_pos rfl], by simp⟩⟩
theorem snd_alloc {t : TypeId} {o : Oper} {K : KT} (ho : o.op = .alloc t) (hD : ∀ t, TOk P t (D t)) (R : Rel base prot w0 S blk a w) (h : q0b t (D t) S.objs K) :
    Out P base prot w0 S o a w K := by
  obtain ⟨hk, h1, h2, h3⟩ := h
  obtain ⟨i, hi, _, _, hz⟩ := (hD t).info hk
  obtain ⟨vs, hv, hr, _⟩ := q1y (w := w) (ok := okL base S.objs blk) (objs := S.objs) (blk := blk) (.of_rep (q63 w _ (D t).zero)) h2
  refine Out.new (w' := { w with heap := w.heap.push (.cells ⟨vs⟩ t (0, 0)) }) (v := .pointer (some ⟨w.heap.size, 0, none⟩)) R ((hD t).notM hk) rfl ⟨rfl, rfl⟩ ?_ ?_ (one_elem h1 hr) h3 (q88 _ _ _ _ _ _ _ _ ((hD t).notM hk))
  · simp [execOp, ho, Instr.alloc, zeroValue, typeInfo, hi, hz, newVar, newRow, hv]
  · have := hr.1
    simp [← h1] at this ⊢; simp [q05, this]
theorem snd_box {t : TypeId} {x : Operand} {o : Oper} {K : KT} (ho : o.op = .box t x) (hD : ∀ t, TOk P t (D t)) (R : Rel base prot w0 S blk a w) (h : boxR t (D t) (S.ev x) S.objs K) :
    Out P base prot w0 S o a w K := by
  obtain ⟨hk, h1, h2, h3⟩ := h
  obtain ⟨vs, hv, hr, _⟩ := q1y (R.ev x) h2
  refine Out.new (w' := { w with heap := w.heap.push (.cells ⟨vs⟩ t (0, 0)) }) (v := .pointer (some ⟨w.heap.size, 0, none⟩)) R ((hD t).notM hk) rfl ⟨rfl, rfl⟩ ?_ ?_ (one_elem h1 hr) h3 (q88 _ _ _ _ _ _ _ _ ((hD t).notM hk))
  · simp [execOp, ho, Instr.box, newVar, newRow, hv]
  · have := hr.1
    simp [← h1] at this ⊢; omega
theorem q1z {α : Type} (l vs : List α) (o q : Nat) (h : o + vs.length ≤ l.length) :
    (l.take o ++ vs ++ l.drop (o + vs.length))[q]? = if q < o then l[q]? else if q < o + vs.length then vs[q - o]? else l[q]? := by
  have ht : (l.take o).length = o := by simp; omega
  rw [List.append_assoc, List.getElem?_append, ht]
  split
  · rename_i hq; rw [List.getElem?_take, if_pos hq]
  · rename_i hq
    rw [List.getElem?_append]
    split
    · rename_i hq2
      rw [if_pos (by omega)]
    · rename_i hq2
      rw [if_neg (by omega), List.getElem?_drop]
      congr 1; omega
theorem qan {e : PV} {f : Nat} {vs : List PV} (hl : f + vs.length ≤ e.cells.length) (h1 : e.isAgg = false → vs.length = 1) (hs : vs.all PV.storable = true) :
    (e.putCells f vs).cells = e.cells.take f ++ vs ++ e.cells.drop (f + vs.length) := by
  cases hx : e.isAgg with
  | true =>
    obtain ⟨cs, rfl⟩ : ∃ cs, e = .agg cs := by cases e <;> simp [PV.isAgg] at hx; exact ⟨_, rfl⟩
    rfl
  | false =>
    have hc : e.cells = [e] := by cases e <;> simp [PV.isAgg] at hx <;> rfl
    have hn := h1 hx
    have hf : f = 0 := by rw [hc] at hl; simp at hl; omega
    subst hf
    obtain ⟨p, rfl⟩ : ∃ p, vs = [p] := by
      match vs, hn with
      | [p], _ => exact ⟨p, rfl⟩
    have hp : p.isAgg = false := by
      simp only [List.all_cons, List.all_nil, Bool.and_true] at hs
      cases p <;> simp [PV.storable, PV.solid, PV.isAgg] at hs ⊢
    have hpc : p.cells = [p] := by cases p <;> simp [PV.isAgg] at hp <;> rfl
    rw [hc]
    have : e.putCells 0 [p] = p := by cases e <;> simp [PV.isAgg] at hx <;> rfl
    rw [this, hpc]
    simp
theorem snd_store {t : TypeId} {x y : Operand} {o : Oper} {K : KT} (ho : o.op = .store t x y) (hD : ∀ t, TOk P t (D t)) (R : Rel base prot w0 S blk a w) (h : q0a (D t) (S.ev x) (S.ev y) S.objs K) :
    Out P base prot w0 S o a w K := by
  have hx := R.ev x
  have hy := R.ev y
  unfold q0a at h
  split at h
  · rename_i k ver i f e
    rw [e] at hx
    obtain ⟨ob, el, h1, h2, h3, h4, hk, h5, h6, h7, h8, h9⟩ := h
    obtain ⟨g, hb, hv, hty⟩ := hx.optr h1 h2 h3
    obtain ⟨vs, hc, hr, hone⟩ := q1y hy h8
    have hob := R.objs.ob k ob h1 h2
    unfold ObjRep at hob
    rw [hb] at hob
    obtain ⟨c, x1, ⟨x2, _⟩, x3⟩ := hob
    rw [q28 hty] at x1
    obtain ⟨y1, y2⟩ := x3 i el h4
    have hn : vs.length = (D t).size := by rw [← hr.1, h5]
    have hi : i < ob.xs.length := (List.getElem?_eq_some_iff.1 h4).1
    have hmul : (i + 1) * ob.sz ≤ ob.xs.length * ob.sz := Nat.mul_le_mul_right _ (by omega)
    rw [Nat.add_mul, Nat.one_mul] at hmul
    have hfit : i * ob.sz + f + vs.length ≤ c.toList.length := by simp; omega
    have hst := run_storeCells_at P g (i * ob.sz + f) ob.ty vs 0 c w x1 (by simpa using hfit) hone
    rw [Nat.add_zero] at hst
    have hrun : (execOp a.eval o).run P w = .ok .skip (w.setRow g (c.toList.take (i * ob.sz + f) ++ vs ++ c.toList.drop (i * ob.sz + f + vs.length)).toArray) := by
      simp only [execOp, ho, hv, Instr.storeAt, Instr.sureAddr, storeVar, Sem.run_bind, Sem.run_pure, Result.andThen_ok, (hD t).run_size hk, hc]
      simp [hn, hst]
    have hheap : (w.setRow g (c.toList.take (i * ob.sz + f) ++ vs ++ c.toList.drop (i * ob.sz + f + vs.length)).toArray).heap[g]? = some (.cells (c.toList.take (i * ob.sz + f) ++ vs ++ c.toList.drop (i * ob.sz + f + vs.length)).toArray ob.ty (0, 0)) :=
      setRow_heap w g c _ _ _ x1
    have hsize : (c.toList.take (i * ob.sz + f) ++ vs ++ c.toList.drop (i * ob.sz + f + vs.length)).toArray.size = c.size := by
      simp at hfit ⊢; omega
    have hcells := qan (e := el) (f := f) (vs := (S.ev y).cells) (by rw [h5]; exact h6) (fun hh => by rw [h5]; exact h7 hh) h8
    refine ⟨undef, _, .dead, _, _, q0f blk k (blk k), .inr ⟨hrun, rfl⟩, h9, ?_, .of_rep (.dead _), .same (by simp)⟩
    refine R.setObj (by first | exact ⟨rfl, rfl⟩ | (unfold World.setRow; split <;> exact ⟨rfl, rfl⟩)) h1 h2 h2 (by simp [World.setRow]) ?_ (fun g' hg' => .inl hg') (Nat.le_refl _) ?_ ?_
    · intro b z hbz hz
      rw [setRow_other w g b _ (fun e => hbz (by rw [hb, e]))]; exact hz
    · intro _
      refine ⟨rfl, rfl, rfl, fun _ => by simp, fun g' c' hg' hc' => ?_⟩
      rw [hb] at hg'; cases hg'
      rw [x1] at hc'; cases hc'
      exact ⟨_, hheap, hsize⟩
    · intro hmono
      unfold ObjRep
      have hbk : q0f blk k (blk k) k = some g := by unfold q0f; rw [if_pos rfl, hb]
      rw [hbk]
      refine ⟨_, by rw [q28 (ty := ob.ty) hty]; exact hheap, q4t hty (by rw [hsize]; simpa using x2), fun i' x' hx' => ?_⟩
      simp only at hx'
      rw [List.getElem?_set] at hx'
      by_cases hii : i = i'
      · subst hii
        simp [hi] at hx'
        subst hx'
        refine ⟨?_, fun j p hp => ?_⟩
        · rw [hcells]; simp; rw [h5] at *; rw [← y1]; omega
        · rw [hcells, q1z _ _ _ _ (by rw [h5]; exact h6)] at hp
          have hj : ∀ q, (c.toList.take (i * ob.sz + f) ++ vs ++ c.toList.drop (i * ob.sz + f + vs.length)).toArray[q]? = if q < i * ob.sz + f then c.toList[q]? else if q < i * ob.sz + f + vs.length then vs[q - (i * ob.sz + f)]? else c.toList[q]? := by
            intro q; rw [List.getElem?_toArray, q1z _ _ _ _ hfit]
          show ∃ v, (c.toList.take (i * ob.sz + f) ++ vs ++ c.toList.drop (i * ob.sz + f + vs.length)).toArray[i * ob.sz + j]? = some v ∧ _
          rw [hj]
          by_cases hj1 : j < f
          · rw [if_pos hj1] at hp
            rw [if_pos (by omega)]
            obtain ⟨v, z1, z2⟩ := y2 j p hp
            exact ⟨v, by simpa using z1, hmono _ _ z2⟩
          · rw [if_neg hj1] at hp
            rw [if_neg (by omega)]
            by_cases hj2 : j < f + (S.ev y).cells.length
            · rw [if_pos hj2] at hp
              rw [if_pos (by rw [hn, ← h5]; omega)]
              obtain ⟨v, z1, z2⟩ := hr.get hp
              exact ⟨v, by rw [← z1]; congr 1; omega, hmono _ _ z2⟩
            · rw [if_neg hj2] at hp
              rw [if_neg (by rw [hn, ← h5]; omega)]
              obtain ⟨v, z1, z2⟩ := y2 j p hp
              exact ⟨v, by simpa using z1, hmono _ _ z2⟩
      · rw [if_neg hii] at hx'
        obtain ⟨z1, z2⟩ := x3 i' x' hx'
        refine ⟨z1, fun j p hp => ?_⟩
        obtain ⟨v, u1, u2⟩ := z2 j p hp
        refine ⟨v, ?_, hmono _ _ u2⟩
        have hj : j < ob.sz := by rw [← z1]; exact (List.getElem?_eq_some_iff.1 hp).1
        show (c.toList.take (i * ob.sz + f) ++ vs ++ c.toList.drop (i * ob.sz + f + vs.length)).toArray[i' * ob.sz + j]? = some v
        rw [List.getElem?_toArray, q1z _ _ _ _ hfit]
        by_cases hlt : i' < i
        · have : (i' + 1) * ob.sz ≤ i * ob.sz := Nat.mul_le_mul_right _ hlt
          rw [Nat.add_mul, Nat.one_mul] at this
          rw [if_pos (by omega)]; simpa using u1
        · have : (i + 1) * ob.sz ≤ i' * ob.sz := Nat.mul_le_mul_right _ (by omega)
          rw [Nat.add_mul, Nat.one_mul] at this
          rw [if_neg (by omega), if_neg (by omega)]; simpa using u1
  · exact h.elim
end
end Lp

/-! LpH -/

namespace Lp
open Go
section
variable {P : Program} {base prot : Nat → Prop} {w0 : Wz} {S : St} {blk : Nat → Option Nat} {a : Act} {w : World} {D : TypeId → TInfo} {objs : List Obj} {ok : Nat → Prop}
def CellsOk (R : PV → Value → Prop) (sz : Nat) (c : Array Value) (xs : List PV) : Prop :=
  ∀ (i : Nat) (x : PV), xs[i]? = some x → x.cells.length = sz ∧ ∀ (j : Nat) (p : PV), x.cells[j]? = some p → ∃ v, c[i * sz + j]? = some v ∧ R p v
theorem q9d (off : Nat) : ∀ (vs : List Value) (n : Nat) (cells : Array Value), off + n + vs.length ≤ cells.size →
    ((vs.zipIdx n).foldl (fun (cs : Array Value) (x : Value × Nat) => cs.setIfInBounds (off + x.2) x.1) cells).size = cells.size ∧
    ∀ q : Nat, ((vs.zipIdx n).foldl (fun (cs : Array Value) (x : Value × Nat) => cs.setIfInBounds (off + x.2) x.1) cells)[q]? = if off + n ≤ q ∧ q < off + n + vs.length then vs[q - (off + n)]? else cells[q]?
  | [], n, cells, _ => by
    refine ⟨rfl, fun q => ?_⟩
    rw [if_neg (by simp only [List.length_nil]; omega)]
    rfl
  | v :: vs, n, cells, h => by
    simp only [List.length_cons] at h
    obtain ⟨h1, h2⟩ := q9d off vs (n + 1) (cells.setIfInBounds (off + n) v) (by simp; omega)
    simp only [List.zipIdx_cons, List.foldl_cons]
    refine ⟨by rw [h1]; simp, fun q => ?_⟩
    rw [h2]
    by_cases hq : off + n = q
    · subst hq
      rw [if_neg (by omega), if_pos (by simp)]
      rw [Array.getElem?_setIfInBounds]
      have : off + n < cells.size := by omega
      simp [this]
    · by_cases hq2 : off + (n + 1) ≤ q ∧ q < off + (n + 1) + vs.length
      · rw [if_pos hq2, if_pos (by simp only [List.length_cons]; omega)]
        have : q - (off + n) = (q - (off + (n + 1))) + 1 := by omega
        rw [this, List.getElem?_cons_succ]
      · rw [if_neg hq2, if_neg (by simp only [List.length_cons]; omega)]
        rw [Array.getElem?_setIfInBounds, if_neg hq]
theorem fold_eq (off : Nat) (vs : List Value) (cells : Array Value) :
    (Array.mk vs).zipIdx.foldl (fun (cs : Array Value) (x : Value × Nat) => cs.setIfInBounds (off + x.2) x.1) cells = (vs.zipIdx 0).foldl (fun (cs : Array Value) (x : Value × Nat) => cs.setIfInBounds (off + x.2) x.1) cells := by
  rw [← Array.foldl_toList]
  congr 1
  simp
theorem run_fill {R : PV → Value → Prop} {sz : Nat} : ∀ (parts : List (Nat × PV)) (vals : List (Nat × Value)) (xs : List PV) (c : Array Value),
    parts.length = vals.length →
    (∀ (i : Nat) (p : Nat × PV) (v : Nat × Value), parts[i]? = some p → vals[i]? = some v → v.1 = p.1 ∧ p.1 < xs.length ∧ p.2.cells.length = sz ∧ ∃ vs, v.2.cells = ⟨vs⟩ ∧ RepL R p.2.cells vs) →
    CellsOk R sz c xs → c.size = xs.length * sz →
    ∃ c', Instr.fill (fun i => some (i * sz, sz)) c vals = some c' ∧ c'.size = c.size ∧ CellsOk R sz c' (q09 xs parts)
  | [], [], xs, c, _, _, h, _ => ⟨c, rfl, rfl, h⟩
  | p :: parts, v :: vals, xs, c, hl, hp, h, hc => by
    obtain ⟨e1, e2, e3, vs, e4, e5⟩ := hp 0 p v rfl rfl
    have hn : vs.length = sz := by rw [← e5.1, e3]
    have hmul : (p.1 + 1) * sz ≤ xs.length * sz := Nat.mul_le_mul_right _ e2
    rw [Nat.add_mul, Nat.one_mul] at hmul
    have hfit : p.1 * sz + 0 + vs.length ≤ c.size := by rw [hc, hn]; omega
    obtain ⟨g1, g2⟩ := q9d (p.1 * sz) vs 0 c hfit
    simp only [Nat.add_zero] at g2
    have hnew : CellsOk R sz ((vs.zipIdx 0).foldl (fun (cs : Array Value) (x : Value × Nat) => cs.setIfInBounds (p.1 * sz + x.2) x.1) c) (xs.set p.1 p.2) := by
      intro i x hx
      rw [List.getElem?_set] at hx
      by_cases hi : p.1 = i
      · subst hi
        simp [e2] at hx
        subst hx
        refine ⟨e3, fun j q hq => ?_⟩
        have hj : j < sz := by rw [← e3]; exact (List.getElem?_eq_some_iff.1 hq).1
        obtain ⟨u, u1, u2⟩ := e5.get hq
        refine ⟨u, ?_, u2⟩
        rw [g2, if_pos (by omega)]
        rw [← u1]; congr 1; omega
      · rw [if_neg hi] at hx
        obtain ⟨z1, z2⟩ := h i x hx
        refine ⟨z1, fun j q hq => ?_⟩
        have hj : j < sz := by rw [← z1]; exact (List.getElem?_eq_some_iff.1 hq).1
        obtain ⟨u, u1, u2⟩ := z2 j q hq
        refine ⟨u, ?_, u2⟩
        rw [g2, if_neg]
        · exact u1
        · rw [hn]
          by_cases hlt : i < p.1
          · have : (i + 1) * sz ≤ p.1 * sz := Nat.mul_le_mul_right _ hlt
            rw [Nat.add_mul, Nat.one_mul] at this
            omega
          · have : (p.1 + 1) * sz ≤ i * sz := Nat.mul_le_mul_right _ (by omega)
            rw [Nat.add_mul, Nat.one_mul] at this
            omega
    obtain ⟨c', k1, k2, k3⟩ := run_fill parts vals (xs.set p.1 p.2) _ (by simpa using hl) (fun i q u hq hu => by
      have := hp (i + 1) q u (by simpa using hq) (by simpa using hu)
      simpa using this) hnew (by rw [g1, hc]; simp)
    refine ⟨c', ?_, by rw [k2, g1], k3⟩
    obtain ⟨pi, pv⟩ := p
    obtain ⟨vi, vv⟩ := v
    simp only at e1 e4
    subst e1
    unfold Instr.fill
    simp only [e4]
    have h1 : ¬ ((Array.mk vs).size ≠ sz ∨ vi * sz + (Array.mk vs).size > c.size) := by
      simp only [List.size_toArray, hn]; simp at hfit; rw [hn] at hfit
      simp; exact hfit
    simp only [Bool.or_eq_true, decide_eq_true_eq]
    rw [if_neg h1, fold_eq]
    exact k1
theorem qb1 {z : Value} {sz : Nat} (hz : (PV.ofV z).cells.length = sz) (hs : (PV.ofV z).cells.all PV.storable = true) (n : Nat) (w : World) (ok : Nat → Prop) (objs : List Obj) (blk : Nat → Option Nat) :
    z.cells.size = sz ∧
    CellsOk (RepS w ok objs blk) sz ((Array.range (n * sz)).map (z.cells[· % z.cells.size]!)) (List.replicate n (.ofV z)) := by
  obtain ⟨vs, hv, hr, _⟩ := q1y (w := w) (ok := ok) (objs := objs) (blk := blk) (.of_rep (q63 w ok z)) hs
  have hn : vs.length = sz := by rw [← hr.1, hz]
  refine ⟨by rw [hv]; simpa using hn, fun i x hx => ?_⟩
  rw [List.getElem?_replicate] at hx
  split at hx
  · rename_i hi
    simp at hx
    subst hx
    refine ⟨hz, fun j p hp => ?_⟩
    have hj : j < sz := by rw [← hz]; exact (List.getElem?_eq_some_iff.1 hp).1
    obtain ⟨v, h1, h2⟩ := hr.get hp
    refine ⟨v, ?_, h2⟩
    have hmul : (i + 1) * sz ≤ n * sz := Nat.mul_le_mul_right _ hi
    rw [Nat.add_mul, Nat.one_mul] at hmul
    have hlt : i * sz + j < n * sz := by omega
    have hmod : (i * sz + j) % sz = j := by rw [Nat.mul_comm, Nat.mul_add_mod, Nat.mod_eq_of_lt hj]
    rw [Array.getElem?_map, Array.getElem?_range, if_pos hlt]
    have hsz : z.cells.size = sz := by rw [hv]; simpa using hn
    simp only [Option.map_some, hsz, hmod]
    have : z.cells[j]? = some v := by rw [hv]; simpa using h1
    rw [getElem!_def, this]
  · cases hx
theorem q6o : ∀ (parts : List (Nat × PV)) (xs : List PV), (q09 xs parts).length = xs.length
  | [], _ => rfl
  | p :: parts, xs => by obtain ⟨i, v⟩ := p; simp [q09, q6o parts]
theorem q9e (objs : List Obj) (blk : Nat → Option Nat) (ty : TypeId) (sz : Nat) (xs : List PV) {w : World} (ok : Nat → Prop) {g cap : Nat} {c : Array Value} (hty : ty ≠ MT) (hw : w.heap[g]? = some (.cells c ty (0, 0)))
    (hl : xs.length ≤ cap) (hm : cap ≤ maxLen) (hc : c.size = cap * sz) :
    RepT w ok (newObj objs ty sz xs) (q0f blk objs.length (some g)) (.osl objs.length 1) (.slice (some ⟨g, 0, none⟩) xs.length cap) :=
  ⟨rfl, _, q9c objs ty sz xs, Nat.le_refl _, fun _ _ => by
    refine ⟨hty, ?_⟩
    unfold Hdr
    have : q0f blk objs.length (some g) objs.length = some g := by unfold q0f; rw [if_pos rfl]
    rw [this]
    exact ⟨cap, c, rfl, hw, hl, hm, hc⟩⟩
theorem rep_of_cells {xs : List PV} {sz : Nat} {c : Array Value} {ty : TypeId} {w : World} {ok : Nat → Prop} {g cap : Nat} (hw : w.heap[g]? = some (.cells c ty (0, 0))) (hok : ok g)
    (hl : xs.length ≤ cap) (hm : cap ≤ maxLen) (h : CellsOk (Rep w ok) sz c xs) : Rep w ok (.sl sz xs none) (.slice (some ⟨g, 0, none⟩) xs.length cap) := by
  refine .sl sz xs none (by simp) g 0 cap (fun i j => (c[i * sz + j]?).getD undef) (fun _ => ⟨hok, (Array.getElem?_eq_some_iff.1 hw).1⟩) hl hm (fun i x hx => (h i x hx).1) ?_ ?_
  · intro i x j p hx hp
    obtain ⟨v, h1, _⟩ := (h i x hx).2 j p hp
    simp [World.cell?, hw, h1]
  · intro i x j p hx hp
    obtain ⟨v, h1, h2⟩ := (h i x hx).2 j p hp
    simpa [h1] using h2
theorem live_lt {base prot : Nat → Prop} (R : ObjsRel base prot objs blk w) {k : Nat} {o : Obj} {g : Nat} (h1 : objs[k]? = some o) (h2 : o.live = true) (h3 : blk k = some g) : g < w.heap.size := by
  have := R.ob k o h1 h2
  unfold ObjRep at this
  rw [h3] at this
  obtain ⟨c, x, _⟩ := this
  exact (Array.getElem?_eq_some_iff.1 x).1
theorem okL_new {base prot : Nat → Prop} (R : ObjsRel base prot objs blk w) (hb : base w.heap.size) : okL base objs blk w.heap.size := by
  refine ⟨hb, fun k o h1 h2 h3 => ?_⟩
  have := live_lt R h1 h2 h3
  omega
theorem CellsOk.mono {R R' : PV → Value → Prop} {sz : Nat} {c : Array Value} {xs : List PV} (h : CellsOk R sz c xs) (hr : ∀ (i : Nat) (x : PV), xs[i]? = some x → ∀ p ∈ x.cells, ∀ v, R p v → R' p v) : CellsOk R' sz c xs :=
  fun i x hx => ⟨(h i x hx).1, fun j p hp => let ⟨v, h1, h2⟩ := (h i x hx).2 j p hp; ⟨v, h1, hr i x hx p (List.mem_of_getElem? hp) v h2⟩⟩
theorem qb2 : ∀ (parts : List (Nat × PV)) (xs : List PV) (y : PV), y ∈ q09 xs parts → y ∈ xs ∨ ∃ p ∈ parts, p.2 = y
  | [], _, _, h => .inl h
  | (i, v) :: parts, xs, y, h => by
    rcases qb2 parts (xs.set i v) y h with h | ⟨p, hp, e⟩
    · rcases List.mem_or_eq_of_mem_set h with h | h
      · exact .inl h
      · exact .inr ⟨(i, v), by simp, h.symm⟩
    · exact .inr ⟨p, by simp [hp], e⟩
theorem pure_cells {x : PV} (h : x.pure = true) : ∀ p ∈ x.cells, p.ref = false := by
  intro p hp
  cases x with
  | agg cs => simp only [PV.pure, PV.cells] at h hp; simpa using List.all_eq_true.1 h p hp
  | osl k v => simp [PV.pure] at h
  | optr k v i f => simp [PV.pure] at h
  | omp k v => simp [PV.pure] at h
  | _ => simp only [PV.cells, List.mem_singleton] at hp; subst hp; rfl
theorem pure_zero (z : Value) : (PV.ofV z).pure = true := by
  unfold PV.ofV
  split <;> try rfl
  simp only [PV.pure, List.all_map, List.all_eq_true]
  intro v _
  simp only [Function.comp]
  split <;> rfl
theorem qao {own : Bool} {t : TypeId} {len : Nat} {parts : Array (Nat × Operand)} {o : Oper} {K : KT} (ho : o.op = .buildSlice t len parts) (hD : ∀ t, TOk P t (D t)) (R : Rel base prot w0 S blk a w)
    (h : q00 D own t len (parts.toList.map fun x => (x.1, S.ev x.2)) S.objs K) : Out P base prot w0 S o a w K := by
  unfold q00 at h
  split at h
  · rename_i e hk
    obtain ⟨hke, hpos, hlen, hz, hzs, hparts, h⟩ := h
    have hu := (hD t).slice hk
    obtain ⟨i, hi, hsz, _, hzero⟩ := (hD e).info hke
    obtain ⟨z1, z2⟩ := qb1 (z := (D e).zero) hz hzs len w (okL base S.objs blk) S.objs blk
    have hrun := run_fill (R := RepS w (okL base S.objs blk) S.objs blk) (sz := (D e).size) (parts.toList.map fun x => (x.1, S.ev x.2)) (parts.toList.map fun x => (x.1, a.eval x.2))
      (List.replicate len (q05 (D e))) ((Array.range (len * (D e).size)).map ((D e).zero.cells[· % (D e).zero.cells.size]!)) (by simp) (by
        intro i p v hp hv
        rw [List.getElem?_map] at hp hv
        cases hx : parts.toList[i]? with
        | none => rw [hx] at hp; simp at hp
        | some x =>
          rw [hx] at hp hv
          simp only [Option.map_some, Option.some.injEq] at hp hv
          subst hp; subst hv
          have := List.all_eq_true.1 hparts (x.1, S.ev x.2) (List.mem_map.2 ⟨x, List.mem_of_getElem? hx, rfl⟩)
          simp only [Bool.and_eq_true, decide_eq_true_eq] at this
          obtain ⟨vs, q1, q2, _⟩ := q1y (R.ev x.2) this.1.2
          exact ⟨rfl, by simpa using this.1.1.1, this.1.1.2, vs, q1, q2⟩) z2 (by simp)
    obtain ⟨c, g1, g2, g3⟩ := hrun
    have hlen' : (q09 (List.replicate len (q05 (D e))) (parts.toList.map fun x => (x.1, S.ev x.2))).length = len := by rw [q6o]; simp
    have hcs : c.size = len * (D e).size := by rw [g2]; simp
    have hexec : (execOp a.eval o).run P w = .ok (.value (.slice (some ⟨w.heap.size, 0, none⟩) len len)) { w with heap := w.heap.push (.cells c e (0, 0)) } := by
      have h24 : ¬ (len * (D e).size > 2 ^ 24) := by simpa using hlen
      have g1' : Instr.fill (fun i => some (i * (D e).size, (D e).size)) ((Array.range (len * (D e).size)).map ((D e).zero.cells[· % (D e).zero.cells.size]!)) (parts.map fun x => (x.1, a.eval x.2)).toList = some c := by
        rw [Array.toList_map]; exact g1
      by_cases hz0 : len * (D e).size = 0
      · have e0 : (Array.range (len * (D e).size)).map ((D e).zero.cells[· % (D e).zero.cells.size]!) = (Array.range (len * (D e).size)).map ((#[] : Array Value)[· % (#[] : Array Value).size]!) := by rw [hz0]; simp
        rw [e0] at g1'
        simp only [execOp, ho, Instr.buildSlice, Sem.run_bind, run_underlying hu, Result.andThen_ok, (hD e).run_size hke, if_neg h24, if_pos hz0, Sem.run_pure, g1', newRow, run_newObj]
      · simp only [execOp, ho, Instr.buildSlice, Sem.run_bind, run_underlying hu, Result.andThen_ok, (hD e).run_size hke, if_neg h24, if_neg hz0, Sem.run_pure, zeroValue, typeInfo, run_program, hi, hzero, g1', newRow, run_newObj]
    have hcap : len ≤ maxLen := by
      have : len * 1 ≤ len * (D e).size := Nat.mul_le_mul_left _ (by omega)
      simp only [maxLen]; omega
    cases own with
    | true =>
      simp only [if_true] at h
      refine Out.new (w' := { w with heap := w.heap.push (.cells c e (0, 0)) }) R ((hD e).notM hke) rfl ⟨rfl, rfl⟩ hexec (by rw [hlen', hcs]; exact Nat.le_refl _) g3 h ?_
      have := q9e S.objs blk e (D e).size _ (okL base (newObj S.objs e (D e).size (q09 (List.replicate len (q05 (D e))) (parts.toList.map fun x => (x.1, S.ev x.2)))) (q0f blk S.objs.length (some w.heap.size)))
        (w := { w with heap := w.heap.push (.cells c e (0, 0)) }) (g := w.heap.size) (cap := len) (c := c) ((hD e).notM hke) (by simp) (Nat.le_of_eq hlen') hcap hcs
      rw [hlen'] at this
      exact this
    | false =>
      simp only [Bool.false_eq_true, if_false] at h
      have hg : Grew w { w with heap := w.heap.push (.cells c e (0, 0)) } := .push rfl
      have hc' : CellsOk (Rep { w with heap := w.heap.push (.cells c e (0, 0)) } (okL base S.objs blk)) (D e).size c (q09 (List.replicate len (q05 (D e))) (parts.toList.map fun x => (x.1, S.ev x.2))) := by
        refine g3.mono fun i x hx p hp v hv => ?_
        have hpure : x.pure = true := by
          rcases qb2 _ _ _ (List.mem_of_getElem? hx) with hm | ⟨q, hq, rfl⟩
          · rw [List.eq_of_mem_replicate hm]; exact pure_zero _
          · have := List.all_eq_true.1 hparts q hq
            simp only [Bool.and_eq_true, Bool.false_or] at this
            exact this.2
        exact (hv.rep (pure_cells hpure p hp)).mono hg.1 (fun _ _ h => h) (fun b y _ hy => hg.2.1 b y hy)
      have := rep_of_cells (c := c) (ty := e) (ok := okL base S.objs blk) (w := { w with heap := w.heap.push (.cells c e (0, 0)) }) (g := w.heap.size) (cap := len) (by simp) (okL_new R.objs (R.bs _ R.gr)) (Nat.le_of_eq hlen') hcap hc'
      rw [hlen'] at this
      exact ⟨_, _, _, S.objs, 0, blk, .inl hexec, h, R.grew hg, .of_rep this, .same rfl⟩
  · exact h.elim
theorem snd_makeSlice {t : TypeId} {x y : Operand} {o : Oper} {K : KT} (ho : o.op = .makeSlice t x y) (hD : ∀ t, TOk P t (D t)) (R : Rel base prot w0 S blk a w)
    (h : q02 D t (S.ev x) (S.ev y) S.objs K) : Out P base prot w0 S o a w K := by
  have hx := R.ev x
  have hy := R.ev y
  unfold q02 at h
  split at h
  · rename_i e k n k' m hk e1 e2
    rw [e1] at hx; rw [e2] at hy
    have hx := hx.int
    have hy := hy.int
    obtain ⟨hke, hz, hpos, hzs, h0, hnm, hm, hb, h⟩ := h
    have hu := (hD t).slice hk
    obtain ⟨i, hi, hsz, hby, hzero⟩ := (hD e).info hke
    obtain ⟨z1, z2⟩ := qb1 (z := (D e).zero) hz hzs m.toNat w (okL base S.objs blk) S.objs blk
    have w1 : IntKind.i64.wrap n = n := q46 (by simp only [inR]; omega)
    have w2 : IntKind.i64.wrap m = m := q46 (by simp only [inR]; omega)
    have hlarge : ¬ ((m < 0 ∨ (i.bytes : Int) * m > 2 ^ 48) ∨ n < 0) := by rw [hby]; omega
    have hnm' : ¬ n > m := by omega
    have hexec : (execOp a.eval o).run P w = .ok (.value (.slice (some ⟨w.heap.size, 0, none⟩) n.toNat m.toNat)) { w with heap := w.heap.push (.cells ((Array.range (m.toNat * (D e).size)).map ((D e).zero.cells[· % (D e).zero.cells.size]!)) e (0, 0)) } := by
      have c1 : ¬ m < 0 := by omega
      have c2 : ¬ (281474976710656 < (i.bytes : Int) * m) := by rw [hby]; omega
      have c3 : ¬ n < 0 := by omega
      by_cases hz0 : m.toNat * (D e).size = 0
      · have r0 : Array.range 0 = #[] := rfl
        have e0 : (Array.range (m.toNat * (D e).size)).map ((D e).zero.cells[· % (D e).zero.cells.size]!) = #[] := by rw [hz0, r0]; simp
        rw [e0]
        simp [execOp, ho, hx, hy, Instr.makeSlice, run_underlying hu, asInt, asIntOf, typeInfo, hi, w1, w2, c1, c2, c3, hnm', (hD e).run_size hke, hz0, newRow, r0]
      · simp [execOp, ho, hx, hy, Instr.makeSlice, run_underlying hu, asInt, asIntOf, typeInfo, hi, w1, w2, c1, c2, c3, hnm', (hD e).run_size hke, hz0, newRow, zeroValue, hzero]
    refine Out.new (w' := { w with heap := w.heap.push (.cells ((Array.range (m.toNat * (D e).size)).map ((D e).zero.cells[· % (D e).zero.cells.size]!)) e (0, 0)) }) R ((hD e).notM hke) rfl ⟨rfl, rfl⟩ hexec ?_ ?_ h ?_
    · simp; exact Nat.mul_le_mul_right _ (by omega)
    · intro i x hx
      rw [List.getElem?_replicate] at hx
      split at hx
      · exact z2 i x (by rw [List.getElem?_replicate, if_pos (by omega)]; exact hx)
      · cases hx
    · have := q9e S.objs blk e (D e).size (List.replicate n.toNat (q05 (D e))) (okL base (newObj S.objs e (D e).size (List.replicate n.toNat (q05 (D e)))) (q0f blk S.objs.length (some w.heap.size)))
        (w := { w with heap := w.heap.push (.cells ((Array.range (m.toNat * (D e).size)).map ((D e).zero.cells[· % (D e).zero.cells.size]!)) e (0, 0)) }) (g := w.heap.size) (cap := m.toNat) ((hD e).notM hke) (by simp; rfl) (by simp; omega) (by simp only [maxLen]; omega) (by simp)
      simpa using this
  · exact h.elim
end
end Lp

/-! LpI -/

namespace Lp
open Go
section
variable {P : Program} {base prot : Nat → Prop} {w0 : Wz} {S : St} {blk : Nat → Option Nat} {a : Act} {w : World} {D : TypeId → TInfo} {objs : List Obj} {ok : Nat → Prop}
theorem q64 (w : World) (t tx ty e : TypeId) (i : TypeInfo) (ht : P.underlying t = some (.slice e)) (hi : P.info? e = some i) (g sLen sCap : Nat) (cur : Array Value) (ty0 : TypeId)
    (hg : w.heap[g]? = some (.cells cur ty0 (0, 0))) (x : Value) (n : Nat) (news : List Value) (hs : Src P i.size tx x n news w) (hroom : sLen + n ≤ sCap) (hfit : sLen * i.size + news.length ≤ cur.size) :
    (Builtin.append_ #[t, tx] ty #[.slice (some ⟨g, 0, none⟩) sLen sCap, x]).run P w =
      .ok (.slice (some ⟨g, 0, none⟩) (sLen + n) sCap) (w.setRow g (cur.toList.take (sLen * i.size) ++ news ++ cur.toList.drop (sLen * i.size + news.length)).toArray) := by
  have hst := run_storeCells_at P g (sLen * i.size) ty0 news 0 cur w hg (by simpa using hfit) hs.one
  simp only [Nat.add_zero] at hst
  rcases hs.kind with ⟨e', hk⟩ | hk <;> simp [Builtin.append_, run_underlying ht, run_underlying hk, Go.sizeOf, typeInfo, hi, hs.len, hroom, hs.cells, Addr.add_lit, hst]
theorem q9f (w : World) (t tx ty e : TypeId) (i : TypeInfo) (ht : P.underlying t = some (.slice e)) (hi : P.info? e = some i) (x : Value) (hs : Src P i.size tx x 0 [] w) :
    (Builtin.append_ #[t, tx] ty #[.slice none 0 0, x]).run P w = .ok (.slice none 0 0) w := by
  rcases hs.kind with ⟨e', hk⟩ | hk <;> simp [Builtin.append_, run_underlying ht, run_underlying hk, Go.sizeOf, typeInfo, hi, hs.len, hs.cells]
theorem CellsOk.append {R : PV → Value → Prop} {sz : Nat} {xs ys : List PV} {c c' : Array Value} (h : CellsOk R sz c xs) (h' : CellsOk R sz c' ys) {c2 : Array Value}
    (h1 : ∀ q, q < xs.length * sz → c2[q]? = c[q]?) (h2 : ∀ q, q < ys.length * sz → c2[xs.length * sz + q]? = c'[q]?) : CellsOk R sz c2 (xs ++ ys) := by
  intro i x hx
  rw [List.getElem?_append] at hx
  split at hx
  · rename_i hi
    obtain ⟨z1, z2⟩ := h i x hx
    refine ⟨z1, fun j p hp => ?_⟩
    have hj : j < sz := by rw [← z1]; exact (List.getElem?_eq_some_iff.1 hp).1
    have hmul : (i + 1) * sz ≤ xs.length * sz := Nat.mul_le_mul_right _ hi
    rw [Nat.add_mul, Nat.one_mul] at hmul
    obtain ⟨v, u1, u2⟩ := z2 j p hp
    exact ⟨v, by rw [h1 _ (by omega)]; exact u1, u2⟩
  · rename_i hi
    obtain ⟨z1, z2⟩ := h' _ x hx
    refine ⟨z1, fun j p hp => ?_⟩
    have hj : j < sz := by rw [← z1]; exact (List.getElem?_eq_some_iff.1 hp).1
    have hy : i - xs.length < ys.length := (List.getElem?_eq_some_iff.1 hx).1
    have hmul : (i - xs.length + 1) * sz ≤ ys.length * sz := Nat.mul_le_mul_right _ hy
    rw [Nat.add_mul, Nat.one_mul] at hmul
    obtain ⟨v, u1, u2⟩ := z2 j p hp
    refine ⟨v, ?_, u2⟩
    have := h2 ((i - xs.length) * sz + j) (by omega)
    rw [← u1, ← this]
    congr 1
    rw [← Nat.add_assoc, ← Nat.add_mul]
    congr 2
    omega
theorem q9g {t tx ty e : TypeId} {ti : TInfo} {R : PV → Value → Prop} (ht : P.underlying t = some (.slice e)) (hte : TOk P e ti) (hke : ti.kind ≠ .none)
    (hz : (q05 ti).cells.length = ti.size) (hzs : (q05 ti).cells.all PV.storable = true) {x : Value} {xs ys : List PV} {news : List Value}
    (hs : Src P ti.size tx x ys.length news w) (hc : CellsOk R ti.size ⟨news⟩ ys)
    (hb : (xs.length + ys.length) * ti.bytes ≤ 140737488355328) (hm : xs.length + ys.length ≤ 9223372036854775807)
    (base : Option Addr) (cap : Nat) (olds : List Value) (holdl : olds.length = xs.length * ti.size) (hold : CellsOk R ti.size ⟨olds⟩ xs)
    (hrun : (Builtin.firstCells ti.size xs.length (.slice base xs.length cap)).run P w.drew = .ok olds.toArray w.drew) (hlt : cap < xs.length + ys.length) :
    ∃ v' w' gb, (Builtin.append_ #[t, tx] ty #[.slice base xs.length cap, x]).run P w = .ok v' w' ∧ (w.heap.size ≤ w'.heap.size ∧ Sm w w') ∧ (∀ (b : Nat) y, w.heap[b]? = some y → w'.heap[b]? = some y) ∧
      gb = some w.heap.size ∧ (∃ cap c, v' = .slice (some ⟨w.heap.size, 0, none⟩) (xs ++ ys).length cap ∧ w'.heap[w.heap.size]? = some (.cells c e (0, 0)) ∧ (xs ++ ys).length ≤ cap ∧ cap ≤ maxLen ∧ c.size = cap * ti.size ∧ CellsOk R ti.size c (xs ++ ys)) := by
  obtain ⟨i, hi, hsz, hby, hzero⟩ := hte.info hke
  rw [← hsz] at hs hrun
  have hzc : ti.zero.cells.size = ti.size := by
    obtain ⟨vs, hv, hr, _⟩ := q1y (w := w) (ok := fun _ => True) (objs := []) (blk := fun _ => none) (.of_rep (q63 w _ ti.zero)) hzs
    rw [hv]; simp; rw [← hr.1]; exact hz
  have hr := run_append_grow_src (P := P) w t tx ty e i ti.zero ht hi hzero base xs.length cap olds hrun x ys.length news hs hlt (by omega) (growslice_fits hlt (by rw [hby]; exact hb))
  have hgr : Grew w (w.drew.alloc (.cells ((olds ++ news).toArray ++ Builtin.zeroCells ti.zero.cells (grownCap w (xs.length + ys.length) cap e - (xs.length + ys.length))) e)) := .push rfl
  have hge := grownCap_ge w (xs.length + ys.length) cap e
  refine ⟨_, _, _, hr, ⟨hgr.1, hgr.2.2⟩, hgr.2.1, rfl, grownCap w (xs.length + ys.length) cap e, (olds ++ news).toArray ++ Builtin.zeroCells ti.zero.cells (grownCap w (xs.length + ys.length) cap e - (xs.length + ys.length)), by rw [List.length_append], heap_alloc_new w.drew _, by rw [List.length_append]; exact hge, grownCap_le_maxLen w _ cap e (by simp only [maxLen]; omega), ?_, ?_⟩
  · have hnl := hs.newsLen
    rw [hsz] at hnl
    simp only [Array.size_append, List.size_toArray, List.length_append, size_zeroCells, hzc, holdl, hnl, ← Nat.add_mul]
    congr 1; omega
  · have hnl := hs.newsLen
    rw [hsz] at hnl
    refine CellsOk.append hold hc (fun q hq => ?_) (fun q hq => ?_)
    · rw [Array.getElem?_append_left (by simp; omega)]
      simp only [List.getElem?_toArray]
      rw [List.getElem?_append_left (by omega)]
    · rw [Array.getElem?_append_left (by simp; omega)]
      simp only [List.getElem?_toArray]
      rw [List.getElem?_append_right (by omega), holdl, Nat.add_sub_cancel_left]
theorem q65 {t tx ty e : TypeId} {ti : TInfo} {R : PV → Value → Prop} (ht : P.underlying t = some (.slice e)) (hte : TOk P e ti) (hke : ti.kind ≠ .none)
    (hz : (q05 ti).cells.length = ti.size) (hzs : (q05 ti).cells.all PV.storable = true)
    {gOld : Option Nat} {v x : Value} {xs ys : List PV} {news : List Value}
    (hv : match gOld with
      | none => v = .slice none 0 0 ∧ xs = []
      | some g => ∃ cap c, v = .slice (some ⟨g, 0, none⟩) xs.length cap ∧ w.heap[g]? = some (.cells c e (0, 0)) ∧ xs.length ≤ cap ∧ cap ≤ maxLen ∧ c.size = cap * ti.size ∧ CellsOk R ti.size c xs)
    (hs : Src P ti.size tx x ys.length news w) (hc : CellsOk R ti.size ⟨news⟩ ys)
    (hb : (xs.length + ys.length) * ti.bytes ≤ 140737488355328) (hm : xs.length + ys.length ≤ 9223372036854775807) :
    ∃ v' w' gb, (Builtin.append_ #[t, tx] ty #[v, x]).run P w = .ok v' w' ∧ (w.heap.size ≤ w'.heap.size ∧ Sm w w') ∧ (∀ b y, gOld ≠ some b → w.heap[b]? = some y → w'.heap[b]? = some y) ∧
      (∀ g, gb = some g → gOld = some g ∨ w.heap.size ≤ g) ∧
      (match gb with
       | none => v' = .slice none 0 0 ∧ xs ++ ys = []
       | some g => ∃ cap c, v' = .slice (some ⟨g, 0, none⟩) (xs ++ ys).length cap ∧ w'.heap[g]? = some (.cells c e (0, 0)) ∧ (xs ++ ys).length ≤ cap ∧ cap ≤ maxLen ∧ c.size = cap * ti.size ∧ CellsOk R ti.size c (xs ++ ys)) := by
  obtain ⟨i, hi, hsz, hby, hzero⟩ := hte.info hke
  rw [← hsz] at hs
  have hzc : ti.zero.cells.size = ti.size := by
    obtain ⟨vs, hv, hr, _⟩ := q1y (w := w) (ok := fun _ => True) (objs := []) (blk := fun _ => none) (.of_rep (q63 w _ ti.zero)) hzs
    rw [hv]; simp; rw [← hr.1]; exact hz
  have grow := fun base cap olds (_ : base = none → olds = []) (h1 : olds.length = xs.length * ti.size) h2 (h3 : (Builtin.firstCells i.size xs.length (.slice base xs.length cap)).run P w.drew = .ok olds.toArray w.drew) h4 =>
    q9g (P := P) (w := w) (ty := ty) (R := R) (xs := xs) (ys := ys) ht hte hke hz hzs (by rw [← hsz]; exact hs) hc hb hm base cap olds h1 h2 (by rw [← hsz]; exact h3) h4
  cases gOld with
  | none =>
    obtain ⟨rfl, rfl⟩ := hv
    by_cases hy : ys = []
    · subst hy
      have hn : news = [] := List.eq_nil_of_length_eq_zero (by rw [hs.newsLen]; simp)
      subst hn
      exact ⟨_, _, none, q9f w t tx ty e i ht hi x hs, ⟨Nat.le_refl _, .refl w⟩, fun _ _ _ h => h, (fun g h => by cases h), rfl, rfl⟩
    · have hpos : 0 < ys.length := List.length_pos_iff.2 hy
      obtain ⟨v', w', gb, q1, q2, q3, q4, q5⟩ := grow none 0 [] (fun _ => rfl) (by simp) (fun i x hx => by simp at hx) (by simp [Builtin.firstCells]) (by simpa using hpos)
      exact ⟨v', w', gb, q1, q2, fun b y _ h => q3 b y h, fun g h => by rw [q4] at h; cases h; exact .inr (Nat.le_refl _), by rw [q4]; exact q5⟩
  | some g =>
    obtain ⟨cap, c, rfl, x1, x2, x3, x4, x5⟩ := hv
    by_cases hroom : xs.length + ys.length ≤ cap
    · have hnl := hs.newsLen
      rw [hsz] at hnl
      have hfit : xs.length * i.size + news.length ≤ c.size := by rw [hnl, x4, hsz, ← Nat.add_mul]; exact Nat.mul_le_mul_right _ hroom
      have hr := q64 w t tx ty e i ht hi g xs.length cap c e x1 x ys.length news hs hroom hfit
      rw [hsz] at hr hfit
      refine ⟨_, _, some g, hr, ⟨by simp [World.setRow], by first | exact ⟨rfl, rfl⟩ | (unfold World.setRow; split <;> exact ⟨rfl, rfl⟩)⟩, fun b y hb hy => ?_, fun g' h => by cases h; exact .inl rfl, cap, (c.toList.take (xs.length * ti.size) ++ news ++ c.toList.drop (xs.length * ti.size + news.length)).toArray, by rw [List.length_append], setRow_heap w g c _ _ _ x1, by rw [List.length_append]; exact hroom, x3, ?_, ?_⟩
      · rw [setRow_other w g b _ (fun e => hb (by rw [e]))]; exact hy
      · simp only [List.size_toArray, List.length_append, List.length_take, List.length_drop, Array.length_toList]; omega
      · refine CellsOk.append x5 hc (fun q hq => ?_) (fun q hq => ?_)
        · rw [List.getElem?_toArray, q1z _ _ _ _ (by simpa using hfit), if_pos hq]; simp
        · rw [List.getElem?_toArray, q1z _ _ _ _ (by simpa using hfit), if_neg (by omega), if_pos (by omega)]
          simp
    · have holds : (Builtin.firstCells i.size xs.length (.slice (some ⟨g, 0, none⟩) xs.length cap)).run P w.drew = .ok (c.toList.take (xs.length * ti.size)).toArray w.drew := by
        rw [hsz]
        refine run_firstCells_some w.drew ti.size xs.length ⟨g, 0, none⟩ xs.length cap (c.toList.take (xs.length * ti.size)) (by simp only [List.length_take, Array.length_toList, x4]; exact Nat.min_eq_left (Nat.mul_le_mul_right _ x2)) (fun j u hu => ?_)
        rw [List.getElem?_take] at hu
        split at hu
        · rw [add_lit]
          have : (w.drew.heap)[g]? = some (.cells c e (0, 0)) := x1
          simp only [World.cell?, this]
          simpa using hu
        · cases hu
      obtain ⟨v', w', gb, q1, q2, q3, q4, q5⟩ := grow (some ⟨g, 0, none⟩) cap (c.toList.take (xs.length * ti.size)) (fun h => by cases h) (by simp only [List.length_take, Array.length_toList, x4]; exact Nat.min_eq_left (Nat.mul_le_mul_right _ x2)) (fun i x hx => ⟨(x5 i x hx).1, fun j p hp => by
        obtain ⟨v, u1, u2⟩ := (x5 i x hx).2 j p hp
        refine ⟨v, ?_, u2⟩
        have hj : j < ti.size := by rw [← (x5 i x hx).1]; exact (List.getElem?_eq_some_iff.1 hp).1
        have hi : i < xs.length := (List.getElem?_eq_some_iff.1 hx).1
        have hmul : (i + 1) * ti.size ≤ xs.length * ti.size := Nat.mul_le_mul_right _ hi
        rw [Nat.add_mul, Nat.one_mul] at hmul
        simp only [List.getElem?_toArray, List.getElem?_take]
        rw [if_pos (by omega)]
        simpa using u1⟩) holds (by omega)
      exact ⟨v', w', gb, q1, q2, fun b y _ h => q3 b y h, fun g h => by rw [q4] at h; cases h; exact .inr (Nat.le_refl _), by rw [q4]; exact q5⟩
theorem q2k (R : Rel base prot w0 S blk a w) {k : Nat} {o : Obj} (h1 : S.objs[k]? = some o) (h2 : o.live = true) {g : Nat} (hb : blk k = some g) (hty : o.ty ≠ MT) :
    ∃ c, w.heap[g]? = some (.cells c o.ty (0, 0)) ∧ o.xs.length * o.sz ≤ c.size ∧ CellsOk (RepS w (okL base S.objs blk) S.objs blk) o.sz c o.xs := by
  have h := R.objs.ob k o h1 h2
  unfold ObjRep at h
  rw [hb] at h
  obtain ⟨c, x1, x2, x3⟩ := h
  rw [q28 hty] at x1
  exact ⟨c, x1, x2.1, x3⟩
theorem CellsOk.take {R : PV → Value → Prop} {sz : Nat} {xs : List PV} {c : Array Value} (h : CellsOk R sz c xs) : CellsOk R sz ⟨c.toList.take (xs.length * sz)⟩ xs := by
  intro i x hx
  refine ⟨(h i x hx).1, fun j p hp => ?_⟩
  obtain ⟨v, u1, u2⟩ := (h i x hx).2 j p hp
  refine ⟨v, ?_, u2⟩
  have hj : j < sz := by rw [← (h i x hx).1]; exact (List.getElem?_eq_some_iff.1 hp).1
  have hi : i < xs.length := (List.getElem?_eq_some_iff.1 hx).1
  have hmul : (i + 1) * sz ≤ xs.length * sz := Nat.mul_le_mul_right _ hi
  rw [Nat.add_mul, Nat.one_mul] at hmul
  simp only [List.getElem?_toArray, List.getElem?_take]
  rw [if_pos (by omega)]
  simpa using u1
theorem q4w {R : PV → Value → Prop} {sz : Nat} {ys : List PV} {news : List Value} (h : CellsOk R sz ⟨news⟩ ys) (hl : news.length = ys.length * sz)
    (hr : ∀ y ∈ ys, ∀ p ∈ y.cells, ∀ v, R p v → v.oneCell' = true) : ∀ u ∈ news, u.oneCell' = true := by
  intro u hu
  obtain ⟨q, hq, rfl⟩ := List.mem_iff_getElem.1 hu
  have hpos : 0 < sz := by
    rcases Nat.eq_zero_or_pos sz with h0 | h0
    · rw [h0, Nat.mul_zero] at hl; omega
    · exact h0
  have hi : q / sz < ys.length := by rw [Nat.div_lt_iff_lt_mul hpos, ← hl]; exact hq
  have hj : q % sz < sz := Nat.mod_lt _ hpos
  obtain ⟨h1, h2⟩ := h (q / sz) _ (List.getElem?_eq_getElem hi)
  obtain ⟨v, u1, u2⟩ := h2 (q % sz) _ (List.getElem?_eq_getElem (by rw [h1]; exact hj))
  have e : q / sz * sz + q % sz = q := by rw [Nat.mul_comm]; exact Nat.div_add_mod q sz
  rw [e] at u1
  have : news[q] = v := by
    have h3 : news[q]? = some v := by simpa using u1
    rw [List.getElem?_eq_getElem hq] at h3
    exact Option.some.inj h3
  rw [this]
  exact hr _ (List.getElem_mem hi) _ (List.getElem_mem _) v u2
theorem srcR_ex {tx : TypeId} {x : PV} {objs : List Obj} {K : List PV → Bool → Prop} (h : srcR D tx x objs K) : srcR D tx x objs fun ys _ => ∃ q, K ys q := by
  unfold srcR at h ⊢
  split at h
  · exact ⟨_, h⟩
  · obtain ⟨o, h1, h2, h3, h⟩ := h; exact ⟨o, h1, h2, h3, _, h⟩
  · exact ⟨_, h⟩
  · exact h.elim
theorem src_rep {ok : Nat → Prop} {tx e : TypeId} {v : Value} {sz sz' : Nat} {ys : List PV} {q : Option Bool} (hu : P.underlying tx = some (.slice e)) (hx' : Rep w ok (.sl sz' ys q) v) (hpos : sz ≠ 0)
    (hall : ∀ y ∈ ys, y.cells.length = sz ∧ y.cells.all PV.storable = true) {objs : List Obj} {blk : Nat → Option Nat} :
    ∃ news, Src P sz tx v ys.length news w ∧ CellsOk (RepS w ok objs blk) sz ⟨news⟩ ys := by
  have hone : ∀ y ∈ ys, ∀ p ∈ y.cells, ∀ v, RepS w ok objs blk p v → v.oneCell' = true :=
    fun y hy p hp v hv => (q2j hv (List.all_eq_true.1 (hall y hy).2 p hp)).1
  cases hx' with
  | slnil => exact ⟨[], Src.ofNil w hu 0, fun i x hx => by simp at hx⟩
  | slz _ _ _ a cap => exact ⟨[], Src.ofSlice w hu a 0 cap [] (by simp) (fun j u hu => by simp at hu) (fun u hu => by cases hu), fun i x hx => by simp at hx⟩
  | sl _ _ _ hq b off cap vs hok hlen hcap hsz hcell hrep =>
    have hszz : ∀ i y, ys[i]? = some y → sz' = sz := fun i y hy => by rw [← hsz i y hy, (hall y (List.mem_of_getElem? hy)).1]
    have hc : CellsOk (RepS w ok objs blk) sz ⟨(List.range (ys.length * sz)).map fun q => vs (q / sz) (q % sz)⟩ ys := by
      intro i y hy
      have hi : i < ys.length := (List.getElem?_eq_some_iff.1 hy).1
      have hc0 := (hall y (List.mem_of_getElem? hy)).1
      refine ⟨hc0, fun j p hp => ?_⟩
      have hj : j < sz := by rw [← hc0]; exact (List.getElem?_eq_some_iff.1 hp).1
      have hmul : (i + 1) * sz ≤ ys.length * sz := Nat.mul_le_mul_right _ hi
      rw [Nat.add_mul, Nat.one_mul] at hmul
      refine ⟨vs i j, ?_, .of_rep (hrep i y j p hy hp)⟩
      have h1 : (i * sz + j) / sz = i := by rw [Nat.mul_comm, Nat.mul_add_div (by omega), Nat.div_eq_of_lt hj, Nat.add_zero]
      have h2 : (i * sz + j) % sz = j := by rw [Nat.mul_comm, Nat.mul_add_mod, Nat.mod_eq_of_lt hj]
      simp [show i * sz + j < ys.length * sz by omega, h1, h2]
    refine ⟨_, Src.ofSlice w hu ⟨b, off, none⟩ ys.length cap _ (by simp) (fun q u hqu => ?_) (q4w hc (by simp) hone), hc⟩
    rw [List.getElem?_map] at hqu
    cases hr : (List.range (ys.length * sz))[q]? with
    | none => rw [hr] at hqu; simp at hqu
    | some q' =>
      obtain ⟨hq1, hq2⟩ := List.getElem?_eq_some_iff.1 hr
      simp at hq1 hq2
      subst hq2
      rw [hr] at hqu
      simp only [Option.map_some, Option.some.injEq] at hqu
      have hi : q / sz < ys.length := by rw [Nat.div_lt_iff_lt_mul (by omega)]; exact hq1
      have hj : q % sz < sz := Nat.mod_lt _ (by omega)
      have hs := hszz _ _ (List.getElem?_eq_getElem hi)
      have hcl := hsz _ _ (List.getElem?_eq_getElem hi)
      have := hcell (q / sz) _ (q % sz) _ (List.getElem?_eq_getElem hi) (List.getElem?_eq_getElem (by rw [hcl, hs]; exact hj))
      rw [add_lit, ← hqu, ← this, hs]
      congr 2
      have e : q / sz * sz + q % sz = q := by rw [Nat.mul_comm]; exact Nat.div_add_mod q sz
      omega
theorem src_of {tx : TypeId} {x : Operand} {sz : Nat} {K : List PV → Prop} (hD : ∀ t, TOk P t (D t)) (R : Rel base prot w0 S blk a w) (hpos : sz ≠ 0) (h : srcR D tx (S.ev x) S.objs fun ys _ => K ys)
    (hall : ∀ ys, K ys → ∀ y ∈ ys, y.cells.length = sz ∧ y.cells.all PV.storable = true) :
    ∃ ys news, K ys ∧ Src P sz tx (a.eval x) ys.length news w ∧ CellsOk (RepS w (okL base S.objs blk) S.objs blk) sz ⟨news⟩ ys := by
  have hx := R.ev x
  have hone : ∀ ys, K ys → ∀ y ∈ ys, ∀ p ∈ y.cells, ∀ v, RepS w (okL base S.objs blk) S.objs blk p v → v.oneCell' = true :=
    fun ys hk y hy p hp v hv => (q2j hv (List.all_eq_true.1 (hall ys hk y hy).2 p hp)).1
  unfold srcR at h
  split at h
  · rename_i e sz' ys q hk e1
    rw [e1] at hx
    have hu := (hD tx).slice hk
    have hx' := hx.sl
    generalize a.eval x = v at hx'
    cases hx' with
    | slnil => exact ⟨[], [], h, Src.ofNil w hu 0, fun i x hx => by simp at hx⟩
    | slz _ _ _ a cap => exact ⟨[], [], h, Src.ofSlice w hu a 0 cap [] (by simp) (fun j u hu => by simp at hu) (fun u hu => by cases hu), fun i x hx => by simp at hx⟩
    | sl _ _ _ hq b off cap vs hok hlen hcap hsz hcell hrep =>
      have hszz : ∀ i y, ys[i]? = some y → sz' = sz := fun i y hy => by rw [← hsz i y hy, (hall ys h y (List.mem_of_getElem? hy)).1]
      have hc : CellsOk (RepS w (okL base S.objs blk) S.objs blk) sz ⟨(List.range (ys.length * sz)).map fun q => vs (q / sz) (q % sz)⟩ ys := by
        intro i y hy
        have hi : i < ys.length := (List.getElem?_eq_some_iff.1 hy).1
        have hc0 := (hall ys h y (List.mem_of_getElem? hy)).1
        refine ⟨hc0, fun j p hp => ?_⟩
        have hj : j < sz := by rw [← hc0]; exact (List.getElem?_eq_some_iff.1 hp).1
        have hmul : (i + 1) * sz ≤ ys.length * sz := Nat.mul_le_mul_right _ hi
        rw [Nat.add_mul, Nat.one_mul] at hmul
        refine ⟨vs i j, ?_, .of_rep (hrep i y j p hy hp)⟩
        have h1 : (i * sz + j) / sz = i := by rw [Nat.mul_comm, Nat.mul_add_div (by omega), Nat.div_eq_of_lt hj, Nat.add_zero]
        have h2 : (i * sz + j) % sz = j := by rw [Nat.mul_comm, Nat.mul_add_mod, Nat.mod_eq_of_lt hj]
        simp [show i * sz + j < ys.length * sz by omega, h1, h2]
      refine ⟨ys, _, h, Src.ofSlice w hu ⟨b, off, none⟩ ys.length cap _ (by simp) (fun q u hqu => ?_) (q4w hc (by simp) (hone ys h)), hc⟩
      rw [List.getElem?_map] at hqu
      cases hr : (List.range (ys.length * sz))[q]? with
      | none => rw [hr] at hqu; simp at hqu
      | some q' =>
        obtain ⟨hq1, hq2⟩ := List.getElem?_eq_some_iff.1 hr
        simp at hq1 hq2
        subst hq2
        rw [hr] at hqu
        simp only [Option.map_some, Option.some.injEq] at hqu
        have hi : q / sz < ys.length := by rw [Nat.div_lt_iff_lt_mul (by omega)]; exact hq1
        have hj : q % sz < sz := Nat.mod_lt _ (by omega)
        have hs := hszz _ _ (List.getElem?_eq_getElem hi)
        have hcl := hsz _ _ (List.getElem?_eq_getElem hi)
        have := hcell (q / sz) _ (q % sz) _ (List.getElem?_eq_getElem hi) (List.getElem?_eq_getElem (by rw [hcl, hs]; exact hj))
        rw [add_lit, ← hqu, ← this, hs]
        congr 2
        have e : q / sz * sz + q % sz = q := by rw [Nat.mul_comm]; exact Nat.div_add_mod q sz
        omega
  · rename_i e k ver hk e1
    rw [e1] at hx
    have hu := (hD tx).slice hk
    obtain ⟨o, h1, h2, h3, h⟩ := h
    have hh := hx.osl h1 h2 h3
    unfold Hdr at hh
    cases hb : blk k with
    | none =>
      rw [hb] at hh
      rw [hh.2] at h
      rw [hh.1]
      exact ⟨[], [], h, Src.ofNil w hu 0, fun i x hx => by simp at hx⟩
    | some g =>
      rw [hb] at hh
      obtain ⟨cap, c, hv, x1, x2, x3, x4⟩ := hh
      obtain ⟨c', y1, y2, y3⟩ := q2k R h1 h2 hb (hx.osl_ty h1 h2 h3)
      rw [x1] at y1; cases y1
      have hszz : ∀ i y, o.xs[i]? = some y → o.sz = sz := fun i y hy => by rw [← (y3 i y hy).1, (hall o.xs h y (List.mem_of_getElem? hy)).1]
      rw [hv]
      by_cases hn : o.xs = []
      · rw [hn] at h ⊢
        exact ⟨[], [], h, Src.ofSlice w hu _ 0 cap [] (by simp) (fun j u hu => by simp at hu) (fun u hu => by cases hu), fun i x hx => by simp at hx⟩
      · have hpos' : 0 < o.xs.length := List.length_pos_iff.2 hn
        have hs := hszz 0 _ (List.getElem?_eq_getElem hpos')
        rw [hs] at y2 y3
        have ht := y3.take
        have hlen : (c.toList.take (o.xs.length * sz)).length = o.xs.length * sz := by simp only [List.length_take, Array.length_toList]; omega
        refine ⟨o.xs, _, h, Src.ofSlice w hu ⟨g, 0, none⟩ o.xs.length cap _ hlen (fun j u hju => ?_) (q4w ht hlen (hone o.xs h)), ht⟩
        rw [List.getElem?_take] at hju
        split at hju
        · rw [add_lit]; simp only [World.cell?, x1]; simpa using hju
        · cases hju
  · rename_i s hk e1
    rw [e1] at hx
    have hu := (hD tx).strT hk
    rw [hx.str]
    have h1 : sz = 1 ∨ s = [] := by
      cases s with
      | nil => exact .inr rfl
      | cons b s => exact .inl ((hall _ h (.int .u8 b.toNat) (by simp)).1.symm)
    rcases h1 with h1 | h1
    · subst h1
      have hs := Src.ofString (P := P) w hu (ByteArray.mk ⟨s⟩)
      rw [size_mk] at hs
      refine ⟨_, byteCells ⟨⟨s⟩⟩, h, by simpa using hs, fun i y hy => ?_⟩
      rw [List.getElem?_map] at hy
      cases hb : s[i]? with
      | none => rw [hb] at hy; simp at hy
      | some b =>
        rw [hb] at hy
        simp only [Option.map_some, Option.some.injEq] at hy
        subst hy
        refine ⟨rfl, fun j p hp => ?_⟩
        cases j with
        | zero =>
          simp [PV.cells] at hp
          subst hp
          exact ⟨.int .u8 b.toNat, by simp [byteCells, hb], .of_rep (.int _ _)⟩
        | succ j => simp [PV.cells] at hp
    · subst h1
      refine ⟨[], [], h, ⟨.inr hu, fun _ => rfl, ?_, ?_, by simp, fun u hu => by cases hu⟩, fun i x hx => by simp at hx⟩
      · simp [Builtin.firstCells]
      · simp [Builtin.firstCells]
  · exact h.elim
theorem objRep_of {w' : World} {okk : Nat → Prop} {objs' : List Obj} {blk' : Nat → Option Nat} {k : Nat} {o : Obj} {gb : Option Nat} {R : PV → Value → Prop} (hb : blk' k = gb)
    (h : match gb with
       | none => o.xs = []
       | some g => ∃ cap c, w'.heap[g]? = some (.cells c o.ty (0, 0)) ∧ o.xs.length ≤ cap ∧ c.size = cap * o.sz ∧ CellsOk R o.sz c o.xs) (hM : o.ty ≠ MT)
    (hr : ∀ p v, R p v → RepS w' okk objs' blk' p v) : ObjRep w' okk objs' blk' k o := by
  unfold ObjRep
  rw [hb]
  cases gb with
  | none => exact h
  | some g =>
    obtain ⟨cap, c, h1, h2, h3, h4⟩ := h
    exact ⟨c, by rw [q28 hM]; exact h1, q4t hM (by rw [h3]; exact Nat.mul_le_mul_right _ h2), fun i x hx => ⟨(h4 i x hx).1, fun j p hp => let ⟨v, u1, u2⟩ := (h4 i x hx).2 j p hp; ⟨v, u1, hr _ _ u2⟩⟩⟩
theorem snd_append {t u : TypeId} {s x : Operand} {o : Oper} {K : KT} (ho : o.op = .call { callee := .builtin .append, args := #[s, x], argTypes := #[t, u] }) (hD : ∀ t, TOk P t (D t))
    (R : Rel base prot w0 S blk a w) (h : q07 D t u (S.ev s) (S.ev x) S.objs K) : Out P base prot w0 S o a w K := by
  have hs := R.ev s
  unfold q07 at h
  split at h
  · rename_i e hk
    obtain ⟨hke, hpos, hz, hzs, h⟩ := h
    have hu := (hD t).slice hk
    obtain ⟨ys, news, ⟨q, hys, h⟩, hsrc, hcells⟩ := src_of hD R hpos (srcR_ex h) (fun ys hy => hy.choose_spec.1)
    have hexec : ∀ v' w', (Builtin.append_ #[t, u] o.type #[a.eval s, a.eval x]).run P w = .ok v' w' → (execOp a.eval o).run P w = .ok (.value v') w' := by
      intro v' w' hr
      simp [execOp, ho, resolve, invoke, builtin, hr]
    split at h
    · rename_i k ver e1
      rw [e1] at hs
      obtain ⟨ob, h1, h2, h3, h4, hty, h5, h6, hne, h7⟩ := h
      have hh := hs.osl h1 h2 h3
      have hM := hs.osl_ty h1 h2 h3
      obtain ⟨v', w', gb, q1, q2, q3, q4, q5⟩ := q65 (ty := o.type) (R := RepS w (okL base S.objs blk) S.objs blk) (gOld := blk k) (v := a.eval s) (x := a.eval x) (xs := ob.xs) hu (hD e) hke hz hzs (by
        unfold Hdr at hh
        cases hb : blk k with
        | none => rw [hb] at hh; exact hh
        | some g =>
          rw [hb] at hh
          obtain ⟨cap, c, hv, x1, x2, x3, x4⟩ := hh
          obtain ⟨c', y1, y2, y3⟩ := q2k R h1 h2 hb hM
          rw [x1] at y1; cases y1
          rw [hty] at x1
          rw [h4] at x4 y3
          exact ⟨cap, c, hv, x1, x2, x3, x4, y3⟩) hsrc hcells h5 h6
      refine ⟨v', w', .osl k (ver + 1), _, _, q0f blk k gb, .inl (hexec _ _ q1), h7, ?_, ?_, .same (by simp)⟩
      · refine R.setObj q2.2 (o' := { ob with xs := ob.xs ++ ys, ver := ver + 1 }) h1 h2 h2 q2.1 q3 q4 (by simp; omega) (fun hv => by simp at hv; omega) (fun hr => ?_)
        refine objRep_of (gb := gb) (R := RepS w (okL base S.objs blk) S.objs blk) (by unfold q0f; rw [if_pos rfl]) ?_ hM hr
        cases gb with
        | none => exact q5.2
        | some g =>
          obtain ⟨cap, c, _, z1, z2, z3, z4, z5⟩ := q5
          simp only [hty, h4]
          exact ⟨cap, c, z1, z2, z4, z5⟩
      · have hone : v'.oneCell' = true := by
          cases gb with
          | none => rw [q5.1]; rfl
          | some g => obtain ⟨cap, c, hv, _⟩ := q5; rw [hv]; rfl
        refine ⟨hone, { ob with xs := ob.xs ++ ys, ver := ver + 1 }, ?_, Nat.le_refl _, fun _ _ => ⟨hM, ?_⟩⟩
        · rw [List.getElem?_set]; simp [(List.getElem?_eq_some_iff.1 h1).1]
        · unfold Hdr
          have : q0f blk k gb k = gb := by unfold q0f; rw [if_pos rfl]
          rw [this]
          cases gb with
          | none => exact q5
          | some g =>
            obtain ⟨cap, c, hv, z1, z2, z3, z4, z5⟩ := q5
            simp only [hty, h4]
            exact ⟨cap, c, hv, z1, z2, z3, z4⟩
    · rename_i sz xs e1
      rw [e1] at hs
      obtain ⟨h4, hallx, h5, h6, hyne, h7⟩ := h
      have hcl : Rep w (okL base S.objs blk) (.cl sz xs) (a.eval s) := hs
      have fin : ∀ v, a.eval s = v → Rep w (okL base S.objs blk) (.sl sz xs none) v → (∀ b l c, v = .slice b l c → c = l) → ∃ v' w' gb, (Builtin.append_ #[t, u] o.type #[a.eval s, a.eval x]).run P w = .ok v' w' ∧ (w.heap.size ≤ w'.heap.size ∧ Sm w w') ∧
          (∀ (b : Nat) y, w.heap[b]? = some y → w'.heap[b]? = some y) ∧ gb = w.heap.size ∧ (∃ cap c, v' = .slice (some ⟨gb, 0, none⟩) (xs ++ ys).length cap ∧ w'.heap[gb]? = some (.cells c e (0, 0)) ∧ (xs ++ ys).length ≤ cap ∧ cap ≤ maxLen ∧ c.size = cap * (D e).size ∧ CellsOk (RepS w (okL base S.objs blk) S.objs blk) (D e).size c (xs ++ ys)) := by
        intro v hv hr hc
        obtain ⟨olds, o1, o2⟩ := src_rep (P := P) (w := w) (objs := S.objs) (blk := blk) hu hr hpos hallx
        have key : ∀ b l c, v = .slice b l c → l = xs.length → ∃ v' w' gb, (Builtin.append_ #[t, u] o.type #[v, a.eval x]).run P w = .ok v' w' ∧ (w.heap.size ≤ w'.heap.size ∧ Sm w w') ∧
          (∀ (b : Nat) y, w.heap[b]? = some y → w'.heap[b]? = some y) ∧ gb = w.heap.size ∧ (∃ cap c, v' = .slice (some ⟨gb, 0, none⟩) (xs ++ ys).length cap ∧ w'.heap[gb]? = some (.cells c e (0, 0)) ∧ (xs ++ ys).length ≤ cap ∧ cap ≤ maxLen ∧ c.size = cap * (D e).size ∧ CellsOk (RepS w (okL base S.objs blk) S.objs blk) (D e).size c (xs ++ ys)) := by
          intro b l c e1 e2
          have e3 := hc b l c e1
          subst e3; subst e2
          have hl : 0 < ys.length := List.length_pos_iff.2 hyne
          obtain ⟨v', w', gb, q1, q2, q3, q4, q5⟩ := q9g (P := P) (w := w) (ty := o.type) (R := RepS w (okL base S.objs blk) S.objs blk) (xs := xs) (ys := ys) hu (hD e) hke hz hzs hsrc hcells h5 h6 b xs.length olds o1.newsLen o2 (by
            have := o1.cellsD
            rw [e1] at this
            exact this) (by omega)
          exact ⟨v', w', w.heap.size, by rw [e1]; exact q1, q2, q3, rfl, q5⟩
        rw [hv]
        cases hr with
        | slnil => exact key _ _ _ rfl rfl
        | slz => exact key _ _ _ rfl rfl
        | sl => exact key _ _ _ rfl rfl
      have hex : ∃ v' w' gb, (Builtin.append_ #[t, u] o.type #[a.eval s, a.eval x]).run P w = .ok v' w' ∧ (w.heap.size ≤ w'.heap.size ∧ Sm w w') ∧
          (∀ (b : Nat) y, w.heap[b]? = some y → w'.heap[b]? = some y) ∧ gb = w.heap.size ∧ (∃ cap c, v' = .slice (some ⟨gb, 0, none⟩) (xs ++ ys).length cap ∧ w'.heap[gb]? = some (.cells c e (0, 0)) ∧ (xs ++ ys).length ≤ cap ∧ cap ≤ maxLen ∧ c.size = cap * (D e).size ∧ CellsOk (RepS w (okL base S.objs blk) S.objs blk) (D e).size c (xs ++ ys)) := by
        generalize hv : a.eval s = v at hcl
        rw [← hv]
        cases hcl with
        | cl _ _ _ hr hc => exact fin v hv hr hc
      obtain ⟨v', w', gb, q1, q2, q3, q4, cap, c, z0, z1, z2, z3, z4, z5⟩ := hex
      refine ⟨v', w', .osl S.objs.length 1, _, _, q0f blk S.objs.length (some gb), .inl (hexec _ _ q1), h7, ?_, ?_, ?_⟩
      · refine R.newObjG ⟨q2.1, fun b y hy => q3 b y hy, q2.2⟩ (fun g hg => by cases hg; omega) ?_
        exact ⟨c, by rw [q28 ((hD e).notM hke)]; exact z1, q4t ((hD e).notM hke) (by rw [z4]; exact Nat.mul_le_mul_right _ z2), z5⟩
      · refine ⟨by rw [z0]; rfl, _, q9c _ _ _ _, Nat.le_refl _, fun _ _ => ⟨(hD e).notM hke, ?_⟩⟩
        unfold Hdr
        have : q0f blk S.objs.length (some gb) S.objs.length = some gb := by unfold q0f; rw [if_pos rfl]
        rw [this]
        exact ⟨cap, c, z0, z1, z2, z3, z4⟩
      · exact .of fun i y hy j p hp => by
          obtain ⟨v, _, h⟩ := (z5 i y hy).2 j p hp
          exact q3a h
    · rename_i sz e1
      rw [e1] at hs
      obtain ⟨h5, h6, h7⟩ := h
      have hv : a.eval s = .slice none 0 0 := by
        have := hs.sl
        generalize a.eval s = v at this
        cases this with
        | slnil => rfl
        | slz _ _ hq => exact absurd rfl hq
        | sl _ _ _ hq => exact absurd rfl hq
      obtain ⟨v', w', gb, q1, q2, q3, q4, q5⟩ := q65 (ty := o.type) (R := RepS w (okL base S.objs blk) S.objs blk) (gOld := none) (v := a.eval s) (x := a.eval x) (xs := []) hu (hD e) hke hz hzs ⟨hv, rfl⟩ hsrc hcells (by simpa using h5) (by simpa using h6)
      simp only [List.nil_append] at q5
      refine ⟨v', w', .osl S.objs.length 1, _, _, q0f blk S.objs.length gb, .inl (hexec _ _ q1), h7, ?_, ?_, ?_⟩
      · refine R.newObjG ⟨q2.1, fun b y hy => q3 b y (by simp) hy, q2.2⟩ (fun g hg => (q4 g hg).resolve_left (by simp)) ?_
        cases gb with
        | none => exact q5.2
        | some g =>
          obtain ⟨cap, c, _, z1, z2, z3, z4, z5⟩ := q5
          exact ⟨c, by rw [q28 ((hD e).notM hke)]; exact z1, q4t ((hD e).notM hke) (by rw [z4]; exact Nat.mul_le_mul_right _ z2), z5⟩
      · have hone : v'.oneCell' = true := by
          cases gb with
          | none => rw [q5.1]; rfl
          | some g => obtain ⟨cap, c, hv, _⟩ := q5; rw [hv]; rfl
        refine ⟨hone, _, q9c _ _ _ _, Nat.le_refl _, fun _ _ => ⟨(hD e).notM hke, ?_⟩⟩
        unfold Hdr
        have : q0f blk S.objs.length gb S.objs.length = gb := by unfold q0f; rw [if_pos rfl]
        rw [this]
        cases gb with
        | none => exact q5
        | some g =>
          obtain ⟨cap, c, hv, z1, z2, z3, z4, z5⟩ := q5
          exact ⟨cap, c, hv, z1, z2, z3, z4⟩
      · exact .of fun i y hy j p hp => by
          obtain ⟨v, _, h⟩ := (hcells i y hy).2 j p hp
          exact q3a h
    · exact h.elim
  · exact h.elim
end
end Lp

/-! LpJ -/

namespace Lp
open Go
section
variable {P : Program} {base prot : Nat → Prop} {w0 : Wz} {S : St} {blk : Nat → Option Nat} {a : Act} {w : World} {D : TypeId → TInfo}
theorem snd_slice {t : TypeId} {x : Operand} {lo hi : Option Operand} {o : Oper} {K : KT} (ho : o.op = .slice t x lo hi none) (hD : ∀ t, TOk P t (D t)) (R : Rel base prot w0 S blk a w)
    (h : q1x D t (S.ev x) (lo.map S.ev) (hi.map S.ev) S.objs K) : Out P base prot w0 S o a w K := by
  have hx := R.ev x
  unfold q1x at h
  split at h
  · rename_i s hk e1
    rw [e1] at hx
    have hv := hx.str
    have hu := (hD t).strT hk
    obtain ⟨l, h', g1, _, _, _, g2⟩ := q3r (P := P) (b := false) R (Nat.le_refl s.length) h
    refine .pure R ?_ g2 (.of_rep (.str _))
    simp [execOp, ho, hv, Instr.sliceAt, Instr.slice, run_underlying hu, size_mk, g1, extract_mk]
  · rename_i e sz xs q hk e1
    rw [e1] at hx
    have hu := (hD t).slice hk
    obtain ⟨hke, hsz, h⟩ := h
    have hx' := hx.sl
    generalize hv : a.eval x = v at hx'
    cases hx' with
    | slnil _ _ hq =>
      obtain ⟨l, h', g1, p1, p2, p3, g2⟩ := q3r (P := P) (b := true) R (Nat.le_refl 0) h
      simp at p3
      have e1 : l = 0 := by omega
      have e2 : h' = 0 := by omega
      subst e1; subst e2
      refine .pure R (v := .slice none 0 0) ?_ g2 (.of_rep (by simpa using Rep.slnil sz q hq))
      simp [execOp, ho, hv, Instr.sliceAt, Instr.slice, run_underlying hu, g1, (hD e).run_size hke]
    | slz _ _ hq a' cap hcap =>
      obtain ⟨l, h', g1, p1, p2, p3, g2⟩ := q3r (P := P) (b := true) R (Nat.zero_le cap) h
      simp at p3
      have e1 : l = 0 := by omega
      have e2 : h' = 0 := by omega
      subst e1; subst e2
      refine .pure R (v := .slice (some (if cap = 0 then a' else a'.add (0 * (D e).size))) 0 (cap - 0)) ?_ g2 (.of_rep (by simpa using Rep.slz sz q hq _ cap hcap))
      simp [execOp, ho, hv, Instr.sliceAt, Instr.slice, run_underlying hu, g1, (hD e).run_size hke]
      try (split <;> rfl)
    | sl _ _ _ hq b off cap vs hok hlen hcap hsz' hcell hrep =>
      obtain ⟨l, h', g1, p1, p2, p3, g2⟩ := q3r (P := P) (b := true) R hlen h
      have hlen2 : (List.drop l.toNat (List.take h'.toNat xs)).length = h'.toNat - l.toNat := by simp; omega
      refine .pure R (v := .slice (some (if cap = l.toNat then ⟨b, off, none⟩ else ⟨b, off + l.toNat * (D e).size, none⟩)) (h'.toNat - l.toNat) (cap - l.toNat)) ?_ g2 (.of_rep ?_)
      · simp [execOp, ho, hv, Instr.sliceAt, Instr.slice, run_underlying hu, g1, (hD e).run_size hke, add_lit]
        split <;> rfl
      · have key : ∀ off', (cap ≠ l.toNat → off' = off + l.toNat * (D e).size) → Rep w (okL base S.objs blk) (.sl sz (List.drop l.toNat (List.take h'.toNat xs)) q) (.slice (some ⟨b, off', none⟩) (h'.toNat - l.toNat) (cap - l.toNat)) := by
          intro off' hoff
          rw [← hlen2]
          have hget : ∀ (i : Nat) (y : PV), (List.drop l.toNat (List.take h'.toNat xs))[i]? = some y → xs[l.toNat + i]? = some y ∧ off' = off + l.toNat * sz := by
            intro i y hy
            rw [List.getElem?_drop, List.getElem?_take] at hy
            split at hy
            · rename_i hlt
              have : xs ≠ [] := by rintro rfl; simp at hy
              rw [← hsz.resolve_left this]
              exact ⟨hy, hoff (by omega)⟩
            · cases hy
          refine .sl sz _ q hq b off' (cap - l.toNat) (fun i j => vs (l.toNat + i) j) (fun hn => hok (by rintro rfl; simp at hn)) (by rw [hlen2]; omega) (by omega) (fun i y hy => hsz' _ _ (hget i y hy).1) ?_ ?_
          · intro i y j p hy hp
            rw [← hcell _ _ j p (hget i y hy).1 hp, (hget i y hy).2, Nat.add_mul]
            congr 2
            omega
          · intro i y j p hy hp
            exact hrep _ _ j p (hget i y hy).1 hp
        split
        · exact key off (fun hc => absurd (by assumption) hc)
        · exact key _ (fun _ => rfl)
  · rename_i e k ver hk e1
    rw [e1] at hx
    have hu := (hD t).slice hk
    obtain ⟨hke, ob, h1, h2, h3, hsz, hlo, h⟩ := h
    have hlo' : lo = none := by cases lo <;> simp at hlo ⊢
    subst hlo'
    have hh := hx.osl h1 h2 h3
    have hM := hx.osl_ty h1 h2 h3
    -- the bound above, run
    obtain ⟨h', g1, p1, p2, g2⟩ : ∃ h' : Int, (∀ cap, ob.xs.length ≤ cap → (Instr.sliceBounds true ob.xs.length cap none (hi.map a.eval) none).run P w = .ok (0, h'.toNat, cap) w) ∧ 0 ≤ h' ∧ h' ≤ ob.xs.length ∧
        K (.osl k (ver + 1)) (S.objs.set k { ob with xs := ob.xs.take h'.toNat, ver := ver + 1 }) (5 + 2 * k) := by
      cases hi with
      | none =>
        rw [Option.map_none, q48] at h
        exact ⟨ob.xs.length, fun cap hc => by simp [Instr.sliceBounds], h⟩
      | some y =>
        obtain ⟨k', n, hv, h⟩ := q47 R h
        exact ⟨n, fun cap hc => by simp [Instr.sliceBounds, q1s hv h.1 (show n ≤ (cap : Int) by omega)], h⟩
    have hlen : (ob.xs.take h'.toNat).length = h'.toNat := by simp; omega
    have hk' : k < S.objs.length := (List.getElem?_eq_some_iff.1 h1).1
    have hrel : Rel base prot w0 ⟨S.tmps, S.objs.set k { ob with xs := ob.xs.take h'.toNat, ver := ver + 1 }⟩ (q0f blk k (blk k)) a w := by
      refine R.setObj (.refl w) (o' := { ob with xs := ob.xs.take h'.toNat, ver := ver + 1 }) h1 h2 h2 (Nat.le_refl _) (fun _ _ _ h => h) (fun g hg => .inl hg) (by simp; omega) (fun hv => by simp at hv; omega) (fun hr => ?_)
      have hob := R.objs.ob k ob h1 h2
      unfold ObjRep at hob ⊢
      have : q0f blk k (blk k) k = blk k := by unfold q0f; rw [if_pos rfl]
      rw [this]
      cases hb : blk k with
      | none => rw [hb] at hob; simp [hob]
      | some g =>
        rw [hb] at hob hr
        obtain ⟨c, x1, x2, x3⟩ := hob
        refine ⟨c, x1, q4t hM (Nat.le_trans (Nat.mul_le_mul_right _ (by rw [hlen]; omega)) x2.1), fun i y hy => ?_⟩
        simp only [List.getElem?_take] at hy
        split at hy
        · refine ⟨(x3 i y hy).1, fun j p hp => ?_⟩
          obtain ⟨v, u1, u2⟩ := (x3 i y hy).2 j p hp
          exact ⟨v, u1, hr _ _ u2⟩
        · cases hy
    unfold Hdr at hh
    cases hb : blk k with
    | none =>
      rw [hb] at hh
      have hx0 := hh.2
      have e0 : h' = 0 := by rw [hx0] at p2; simp at p2; omega
      refine ⟨.slice none 0 0, w, _, _, _, _, .inl ?_, g2, hrel, ⟨rfl, _, by rw [List.getElem?_set]; simp [hk']; rfl, Nat.le_refl _, fun _ _ => ?_⟩, .same (by simp)⟩
      · have := g1 0 (by rw [hx0]; simp)
        rw [hx0, e0] at this
        simp at this
        simp [execOp, ho, hh.1, Instr.sliceAt, Instr.slice, run_underlying hu, this, (hD e).run_size hke]
      · refine ⟨hM, ?_⟩
        unfold Hdr
        have : q0f blk k (blk k) k = none := by unfold q0f; rw [if_pos rfl, hb]
        rw [this]
        exact ⟨rfl, by simp [hx0]⟩
    | some g =>
      rw [hb] at hh
      obtain ⟨cap, c, hv, x1, x2, x3, x4⟩ := hh
      refine ⟨.slice (some ⟨g, 0, none⟩) h'.toNat cap, w, _, _, _, _, .inl ?_, g2, hrel, ⟨rfl, _, by rw [List.getElem?_set]; simp [hk']; rfl, Nat.le_refl _, fun _ _ => ?_⟩, .same (by simp)⟩
      · simp [execOp, ho, hv, Instr.sliceAt, Instr.slice, run_underlying hu, g1 cap x2, (hD e).run_size hke, add_lit]
      · refine ⟨hM, ?_⟩
        unfold Hdr
        have : q0f blk k (blk k) k = some g := by unfold q0f; rw [if_pos rfl, hb]
        rw [this]
        exact ⟨cap, c, by rw [hlen], x1, by rw [hlen]; omega, x3, x4⟩
  · rename_i m e cs hk e1
    rw [e1] at hx
    have hu := (hD t).arr hk
    obtain ⟨hke, hsz, hag, hcl, hml, hna, h⟩ := h
    have hx' := hx.addr
    generalize hv : a.eval x = v at hx'
    cases hx' with
    | addr _ b off vs hok hcell hrep =>
      obtain ⟨l, h', g1, p1, p2, p3, g2⟩ := q3r (P := P) (b := false) R (Nat.le_refl m) h
      have hlen2 : (List.drop l.toNat (List.take h'.toNat cs)).length = h'.toNat - l.toNat := by simp; omega
      refine .pure R (v := .slice (some (if m = l.toNat then ⟨b, off, none⟩ else ⟨b, off + l.toNat * (D e).size, none⟩)) (h'.toNat - l.toNat) (m - l.toNat)) ?_ g2 (.of_rep ?_)
      · simp [execOp, ho, hv, Instr.sliceAt, Instr.sureAddr, run_underlying hu, g1, (hD e).run_size hke, add_lit]
      · have hcells : ∀ (y : PV), y ∈ cs → y.cells = [y] := by
          intro y hy
          have := q3q hna y hy
          revert this; cases y <;> simp [PV.isAgg, PV.cells]
        have key : ∀ off', (m ≠ l.toNat → off' = off + l.toNat) → Rep w (okL base S.objs blk) (.sl 1 (List.drop l.toNat (List.take h'.toNat cs)) none) (.slice (some ⟨b, off', none⟩) (h'.toNat - l.toNat) (m - l.toNat)) := by
          intro off' hoff
          rw [← hlen2]
          have hget : ∀ (i : Nat) (y : PV), (List.drop l.toNat (List.take h'.toNat cs))[i]? = some y → cs[l.toNat + i]? = some y ∧ off' = off + l.toNat := by
            intro i y hy
            rw [List.getElem?_drop, List.getElem?_take] at hy
            split at hy
            · rename_i hlt; exact ⟨hy, hoff (by omega)⟩
            · cases hy
          refine .sl 1 _ _ (by simp) b off' (m - l.toNat) (fun i j => vs (l.toNat + i + j)) (fun _ => hok) (by rw [hlen2]; omega) ?_ ?_ ?_ ?_
          · simp only [maxLen]; omega
          · intro i y hy; rw [hcells y (List.mem_of_getElem? (hget i y hy).1)]; rfl
          · intro i y j p hy hp
            rw [hcells y (List.mem_of_getElem? (hget i y hy).1)] at hp
            cases j with
            | zero =>
              have := hcell (l.toNat + i) y (hget i y hy).1
              rw [(hget i y hy).2]
              simp only [Nat.mul_one, Nat.add_zero]
              rw [← this]; congr 2; omega
            | succ j => simp at hp
          · intro i y j p hy hp
            rw [hcells y (List.mem_of_getElem? (hget i y hy).1)] at hp
            cases j with
            | zero => simp at hp; subst hp; exact hrep (l.toNat + i) y (hget i y hy).1
            | succ j => simp at hp
        split
        · exact key off (fun hc => absurd (by assumption) hc)
        · rw [hsz, Nat.mul_one]; exact key _ (fun _ => rfl)
  · exact h.elim
theorem snd_move {x : Operand} {o : Oper} {K : KT} (ho : o.op = .move x ∨ o.op = .assign x) (R : Rel base prot w0 S blk a w) (h : K (S.ev x) S.objs 0) : Out P base prot w0 S o a w K := by
  refine .pure R (v := a.eval x) ?_ h (R.ev x)
  rcases ho with ho | ho <;> simp [execOp, ho]
def pickR (c x y : PV) (objs : List Obj) (K : KT) : Prop :=
  match c with
  | .bool b => K (if b then x else y) objs 0
  | _ => False
theorem snd_pick {c x y : Operand} {o : Oper} {K : KT} (ho : o.op = .pick c x y) (R : Rel base prot w0 S blk a w) (h : pickR (S.ev c) (S.ev x) (S.ev y) S.objs K) : Out P base prot w0 S o a w K := by
  have hc := R.ev c
  unfold pickR at h
  split at h
  · rename_i b e
    rw [e] at hc
    have hc := hc.bool
    refine .pure R (v := if b then a.eval x else a.eval y) ?_ h ?_
    · simp [execOp, ho, hc, asBool]
    · cases b
      · exact R.ev y
      · exact R.ev x
  · exact h.elim
theorem snd_bin {op : BinOp} {t u : TypeId} {x y : Operand} {o : Oper} {K : KT} (ho : o.op = .binOp op t x y u) (hD : ∀ t, TOk P t (D t)) (R : Rel base prot w0 S blk a w)
    (h : binR P (D t) t op (S.ev x) (S.ev y) fun r => K r S.objs 0) : Out P base prot w0 S o a w K := by
  obtain ⟨r, v, h1, h2, h3, h4⟩ := snd_binR (hD t) R h
  exact .pure R (by simp [execOp, ho, h1, h2]) h3 h4
theorem snd_un {op : UnOp} {t : TypeId} {x : Operand} {o : Oper} {K : KT} (ho : o.op = .unOp op t x) (R : Rel base prot w0 S blk a w)
    (h : unR op (S.ev x) fun r => K r S.objs 0) : Out P base prot w0 S o a w K := by
  obtain ⟨r, v, h2, h3, h4⟩ := snd_unR (P := P) R h
  exact .pure R (by simp [execOp, ho, h2]) h3 h4
theorem qb3 {s t : TypeId} {x : PV} {objs : List Obj} {K : KT} (h : ∀ k ver, x ≠ .osl k ver) : convO D s t x objs K = convR (D s) (D t) x fun r => K r objs 0 := by
  cases x <;> first | rfl | exact absurd rfl (h _ _)
theorem snd_conv {s t : TypeId} {x : Operand} {o : Oper} {K : KT} (ho : o.op = .convert s t x) (hD : ∀ t, TOk P t (D t)) (R : Rel base prot w0 S blk a w)
    (h : convO D s t (S.ev x) S.objs K) : Out P base prot w0 S o a w K := by
  by_cases hx : ∃ k ver, S.ev x = .osl k ver
  · obtain ⟨k, ver, e1⟩ := hx
    have hr := R.ev x
    rw [e1] at h hr
    obtain ⟨ob, bs, h1, h2, h3, h4, hne, h5, h6, ⟨e, h7, h8⟩, h9⟩ := h
    have hh := hr.osl h1 h2 h3
    have hs := (hD s).slice h7
    have he : P.underlying e = some (.int .u8) := by
      have := hD e
      unfold TOk at this
      rw [h8] at this
      rcases this with h | h
      · cases h
      · exact h.2
    have ht := (hD t).strT h6
    unfold Hdr at hh
    cases hb : blk k with
    | none => rw [hb] at hh; rw [h5] at hh; exact absurd (List.map_eq_nil_iff.1 hh.2) hne
    | some g =>
      rw [hb] at hh
      obtain ⟨cap, c, hv, x1, x2, x3, x4⟩ := hh
      obtain ⟨c', y1, y2, y3⟩ := q2k R h1 h2 hb (hr.osl_ty h1 h2 h3)
      rw [x1] at y1; cases y1
      have hl : ob.xs.length = bs.length := by rw [h5]; simp
      rw [hl] at hv
      refine .pure R ?_ h9 (.of_rep (.str _))
      have := run_convert_bytes_back (P := P) w s t e ⟨g, 0, none⟩ cap bs hs he ht (fun j hj => by
        rw [add_lit]
        obtain ⟨z1, z2⟩ := y3 j (.int .u8 (bs[j].toNat)) (by rw [h5]; simp [hj])
        obtain ⟨v, u1, u2⟩ := z2 0 (.int .u8 (bs[j].toNat)) rfl
        have hu : Rep w _ (.int .u8 (bs[j].toNat)) v := u2
        cases hu
        rw [h4, Nat.mul_one, Nat.add_zero] at u1
        simp only [World.cell?, x1, Nat.zero_add]
        simpa using u1)
      simp [execOp, ho, hv, this]
  · rw [qb3 fun k ver e => hx ⟨k, ver, e⟩] at h
    obtain ⟨r, v, h2, h3, h4⟩ := snd_convR (hD s) (hD t) R h
    exact .pure R (by simp [execOp, ho, h2]) h3 h4
theorem snd_nilCheck {x : Operand} {o : Oper} {K : KT} (ho : o.op = .nilCheck x) (R : Rel base prot w0 S blk a w) (h : q0q (S.ev x) S.objs K) : Out P base prot w0 S o a w K := by
  have hx := R.ev x
  unfold q0q at h
  split at h
  · rename_i p e
    have hx' : RepT w (okL base S.objs blk) S.objs blk (.addr p) (a.eval x) := by rw [← e]; exact hx
    have hx'' := hx'.addr
    refine .pure R (v := a.eval x) ?_ h hx
    generalize hv : a.eval x = v at hx''
    cases hx'' with
    | addr _ b off vs hok hcell hrep => simp [execOp, ho, hv]
  · rename_i k ver i f e
    obtain ⟨ob, h1, h2, h3, h4⟩ := h
    have hx' : RepT w (okL base S.objs blk) S.objs blk (.optr k ver i f) (a.eval x) := by rw [← e]; exact hx
    obtain ⟨g, hb, hv, hty⟩ := hx'.optr h1 h2 h3
    exact .pure R (v := a.eval x) (by simp [execOp, ho, hv]) h4 hx
  · exact h.elim
theorem q8q {f : Operand → PV} {g : Operand → Value} {Rr : PV → Value → Prop} (xs : List Operand) (h : ∀ x ∈ xs, Rr (f x) (g x)) : RepL Rr (xs.map f) (xs.map g) := by
  refine ⟨by simp, fun i p v hp hv => ?_⟩
  rw [List.getElem?_map] at hp hv
  cases hx : xs[i]? with
  | none => rw [hx] at hp; simp at hp
  | some x =>
    rw [hx] at hp hv
    simp only [Option.map_some, Option.some.injEq] at hp hv
    subst hp; subst hv
    exact h x (List.mem_of_getElem? hx)
def q04 (f : FuncId) (first cap : List PV) (objs : List Obj) (K : KT) : Prop :=
  first.all PV.storable = true ∧ cap.all PV.storable = true ∧ K (.fn f first cap) objs 0
theorem snd_makeFunc {f : FuncId} {first cap : Array Operand} {o : Oper} {K : KT} (ho : o.op = .makeFunc (.func f) first cap) (R : Rel base prot w0 S blk a w)
    (h : q04 f (first.toList.map S.ev) (cap.toList.map S.ev) S.objs K) : Out P base prot w0 S o a w K := by
  obtain ⟨h1, h2, h3⟩ := h
  refine .pure R (v := .func (.func f) ⟨first.toList.map a.eval⟩ ⟨cap.toList.map a.eval⟩) ?_ h3 ⟨_, _, rfl, q8q _ fun x hx => ?_, q8q _ fun x hx => ?_⟩
  · have e1 : (Array.mk (first.toList.map a.eval)) = first.map a.eval := by apply Array.ext'; simp
    have e2 : (Array.mk (cap.toList.map a.eval)) = cap.map a.eval := by apply Array.ext'; simp
    rw [e1, e2]
    simp [execOp, ho, Instr.makeFunc]
  · exact q4v (R.ev x) (List.all_eq_true.1 h1 _ (List.mem_map.2 ⟨x, hx, rfl⟩))
  · exact q4v (R.ev x) (List.all_eq_true.1 h2 _ (List.mem_map.2 ⟨x, hx, rfl⟩))
def q17 (x : PV) (i : Nat) (objs : List Obj) (K : KT) : Prop :=
  match x with
  | .tup cs => ∃ p, cs[i]? = some p ∧ K p objs 0
  | _ => False
theorem snd_extract {x : Operand} {i : Nat} {o : Oper} {K : KT} (ho : o.op = .extract x i) (R : Rel base prot w0 S blk a w) (h : q17 (S.ev x) i S.objs K) : Out P base prot w0 S o a w K := by
  have hx := R.ev x
  unfold q17 at h
  split at h
  · rename_i cs e
    rw [e] at hx
    obtain ⟨p, h1, h2⟩ := h
    obtain ⟨vs, hv, hr⟩ := hx
    obtain ⟨v, h3, h4⟩ := hr.get h1
    refine .pure R (v := v) ?_ h2 (.of_repS h4)
    have : (Array.mk vs)[i]? = some v := by simpa using h3
    simp [execOp, ho, hv, Instr.extract, this]
  · exact h.elim
theorem RepL.splice {Rr : PV → Value → Prop} {cs ps : List PV} {vs us : List Value} (h : RepL Rr cs vs) (h' : RepL Rr ps us) (off : Nat) (hl : off + ps.length ≤ cs.length) :
    RepL Rr (cs.take off ++ ps ++ cs.drop (off + ps.length)) (vs.take off ++ us ++ vs.drop (off + us.length)) := by
  have e1 := h.1
  have e2 := h'.1
  refine ⟨by simp; omega, fun i p v hp hv => ?_⟩
  rw [q1z _ _ _ _ hl] at hp
  rw [q1z _ _ _ _ (by omega)] at hv
  by_cases c1 : i < off
  · rw [if_pos c1] at hp hv; exact h.2 _ _ _ hp hv
  · rw [if_neg c1] at hp hv
    by_cases c2 : i < off + ps.length
    · rw [if_pos c2] at hp; rw [if_pos (by omega)] at hv; exact h'.2 _ _ _ hp hv
    · rw [if_neg c2] at hp; rw [if_neg (by omega)] at hv; exact h.2 _ _ _ hp hv
theorem run_fillR {Rr : PV → Value → Prop} {place : Nat → Option (Nat × Nat)} : ∀ (parts : List (Nat × Operand)) (f : Operand → PV) (g : Operand → Value) (cs : List PV) (vs : List Value) (K : List PV → Prop),
    (∀ x ∈ parts, ∃ us, (g x.2).cells = ⟨us⟩ ∧ RepL Rr (f x.2).cells us) → RepL Rr cs vs → fillR place cs (parts.map fun x => (x.1, f x.2)) K →
    ∃ cs' vs', Instr.fill place ⟨vs⟩ (parts.map fun x => (x.1, g x.2)) = some ⟨vs'⟩ ∧ RepL Rr cs' vs' ∧ K cs'
  | [], f, g, cs, vs, K, _, hr, h => ⟨cs, vs, rfl, hr, h⟩
  | x :: parts, f, g, cs, vs, K, hp, hr, h => by
    obtain ⟨pl, h1, h2, h3, h4⟩ := h
    obtain ⟨us, u1, u2⟩ := hp x (by simp)
    have hn : us.length = (f x.2).cells.length := u2.1.symm
    obtain ⟨cs', vs', r1, r2, r3⟩ := run_fillR parts f g _ _ K (fun y hy => hp y (by simp [hy])) (hr.splice u2 pl.1 h3) h4
    refine ⟨cs', vs', ?_, r2, r3⟩
    simp only [List.map_cons]
    unfold Instr.fill
    simp only [h1, u1]
    have hc : ¬ ((Array.mk us).size ≠ pl.2 ∨ pl.1 + (Array.mk us).size > (Array.mk vs).size) := by
      simp only [List.size_toArray, hn, h2]
      rw [h2] at h3
      have := hr.1
      simp; omega
    simp only [Bool.or_eq_true, decide_eq_true_eq]
    rw [if_neg hc, fold_eq]
    have hfit : pl.1 + 0 + us.length ≤ (Array.mk vs).size := by simp; rw [hn, ← hr.1]; omega
    obtain ⟨g1, g2⟩ := q9d pl.1 us 0 ⟨vs⟩ hfit
    have : (us.zipIdx 0).foldl (fun (cs : Array Value) (x : Value × Nat) => cs.setIfInBounds (pl.1 + x.2) x.1) ⟨vs⟩ = ⟨vs.take pl.1 ++ us ++ vs.drop (pl.1 + us.length)⟩ := by
      apply Array.ext_getElem?
      intro q
      rw [g2]
      simp only [Nat.add_zero, List.getElem?_toArray]
      rw [q1z _ _ _ _ (by simpa using hfit)]
      by_cases c1 : q < pl.1
      · rw [if_neg (by omega), if_pos c1]
      · rw [if_neg c1]
        by_cases c2 : q < pl.1 + us.length
        · rw [if_pos (by omega), if_pos c2]
        · rw [if_neg (by omega), if_neg c2]
    rw [this]
    exact r1
theorem mapM_places {fl : List Field} {n : Field → Nat} (h : ∀ f ∈ fl, (Go.sizeOf f.type).run P w = .ok (n f) w) :
    (fl.mapM fun f => do pure (f.offset, ← Go.sizeOf f.type) : Sem (List (Nat × Nat))).run P w = .ok (fl.map fun f => (f.offset, n f)) w := by
  induction fl with
  | nil => simp
  | cons f fl ih =>
    rw [List.mapM_cons]
    simp only [Sem.run_bind, h f (by simp), Result.andThen_ok, Sem.run_pure, ih (fun g hg => h g (by simp [hg])), List.map_cons]
def partOk (p : PV) : Bool := p.cells.all PV.storable
def q1p (D : TypeId → TInfo) (t : TypeId) (parts : List (Nat × PV)) (objs : List Obj) (K : KT) : Prop :=
  (D t).agg = true ∧ (q05 (D t)).isAgg = true ∧ parts.all (fun p => partOk p.2) = true ∧ q9b D t parts objs K
theorem snd_build {t : TypeId} {parts : Array (Nat × Operand)} {o : Oper} {K : KT} (ho : o.op = .build t parts) (hD : ∀ t, TOk P t (D t)) (R : Rel base prot w0 S blk a w)
    (h : q1p D t (parts.toList.map fun x => (x.1, S.ev x.2)) S.objs K) : Out P base prot w0 S o a w K := by
  obtain ⟨hagg, hzagg, hparts, h⟩ := h
  have hk : (D t).kind ≠ .none := by intro e; simp [TInfo.agg, e] at hagg
  obtain ⟨i, hi, hsz, _, hzero⟩ := (hD t).info hk
  obtain ⟨zcs, hz1⟩ : ∃ zcs, q05 (D t) = .agg zcs := by
    cases hz : q05 (D t) <;> rw [hz] at hzagg <;> simp [PV.isAgg] at hzagg; exact ⟨_, rfl⟩
  have hzr := q63 w (okL base S.objs blk) (D t).zero
  have hz1' : PV.ofV (D t).zero = .agg zcs := hz1
  rw [hz1'] at hzr
  obtain ⟨zvs, hz2, hz3⟩ : ∃ zvs, (D t).zero = .agg ⟨zvs⟩ ∧ RepL (RepS w (okL base S.objs blk) S.objs blk) zcs zvs := by
    generalize (D t).zero = z at hzr
    cases hzr with
    | agg _ vs hl hh => exact ⟨vs, rfl, hl, fun i p v a b => .of_rep (hh i p v a b)⟩
  have hp : ∀ x ∈ parts.toList, ∃ us, (a.eval x.2).cells = ⟨us⟩ ∧ RepL (RepS w (okL base S.objs blk) S.objs blk) (S.ev x.2).cells us := by
    intro x hx
    have := List.all_eq_true.1 hparts (x.1, S.ev x.2) (List.mem_map.2 ⟨x, hx, rfl⟩)
    obtain ⟨us, u1, u2, _⟩ := q1y (R.ev x.2) this
    exact ⟨us, u1, u2⟩
  unfold q9b at h
  have hfill : ∀ (place : Nat → Option (Nat × Nat)), fillR place (q05 (D t)).cells (parts.toList.map fun x => (x.1, S.ev x.2)) (fun cs => K (.agg cs) S.objs 0) →
      ∃ cs' vs', Instr.fill place ⟨zvs⟩ (parts.map fun x => (x.1, a.eval x.2)).toList = some ⟨vs'⟩ ∧ RepL (RepS w (okL base S.objs blk) S.objs blk) cs' vs' ∧ K (.agg cs') S.objs 0 := by
    intro place h
    rw [hz1] at h
    rw [Array.toList_map]
    exact run_fillR parts.toList S.ev a.eval zcs zvs _ hp hz3 h
  split at h
  · rename_i fs hkk
    obtain ⟨hfs, h⟩ := h
    have := (hD t).resolve_left hk
    rw [hkk] at this
    obtain ⟨_, fl, hu, hm⟩ := this
    have hsizes : ∀ f ∈ fl.toList, (Go.sizeOf f.type).run P w = .ok (D f.type).size w := by
      intro f hf
      exact (hD f.type).run_size (hfs (f.offset, f.type) (by rw [← hm]; exact List.mem_map.2 ⟨f, hf, rfl⟩)) w
    have hplaces := mapM_places (P := P) (w := w) (n := fun f => (D f.type).size) hsizes
    obtain ⟨cs', vs', q1, q2, q3⟩ := hfill _ h
    have hpl : (fun (i : Nat) => (fs[i]?).map fun (x : Nat × TypeId) => (x.1, (D x.2).size)) = fun (i : Nat) => ((fl.map fun f => (f.offset, (D f.type).size))[i]? : Option (Nat × Nat)) := by
      funext i
      rw [← hm]
      simp
      cases fl[i]? <;> rfl
    rw [hpl] at q1
    refine .pure R (v := .agg ⟨vs'⟩) ?_ q3 ⟨vs', rfl, q2⟩
    have hmm : (fl.mapM fun f => do pure (f.offset, ← Go.sizeOf f.type) : Sem (Array (Nat × Nat))).run P w = .ok (fl.map fun f => (f.offset, (D f.type).size)) w := by
      rw [Array.mapM_eq_mapM_toList]
      simp only [Sem.run_map, hplaces, Result.andThen_ok]
      congr 1
      apply Array.ext'; simp
    simp only [execOp, ho, Instr.build, Sem.run_bind, zeroValue, typeInfo, run_program, Result.andThen_ok, hi, hzero, Sem.run_pure, hz2, Value.cells, run_underlying hu, hmm, q1]
  · rename_i m e hkk
    obtain ⟨hke, h⟩ := h
    have hu := (hD t).arr hkk
    obtain ⟨cs', vs', q1, q2, q3⟩ := hfill _ h
    refine .pure R (v := .agg ⟨vs'⟩) ?_ q3 ⟨vs', rfl, q2⟩
    simp only [execOp, ho, Instr.build, Sem.run_bind, zeroValue, typeInfo, run_program, Result.andThen_ok, hi, hzero, Sem.run_pure, hz2, Value.cells, run_underlying hu, (hD e).run_size hke, q1]
  · exact h.elim
theorem snd_minmax {isMax : Bool} {xs : Array Operand} {ts : Array TypeId} {o : Oper} {K : KT} (ho : o.op = .call { callee := .builtin (if isMax then .max else .min), args := xs, argTypes := ts }) (R : Rel base prot w0 S blk a w)
    (h : q08 isMax (xs.toList.map S.ev) fun r => K r S.objs 0) : Out P base prot w0 S o a w K := by
  unfold q08 at h
  split at h
  · rename_i k m k' n e
    obtain ⟨x, y, hxy⟩ : ∃ x y, xs.toList = [x, y] := by
      match hl : xs.toList with
      | [] => rw [hl] at e; simp at e
      | [_] => rw [hl] at e; simp at e
      | [x, y] => exact ⟨x, y, rfl⟩
      | _ :: _ :: _ :: _ => rw [hl] at e; simp at e
    rw [hxy] at e
    simp only [List.map_cons, List.map_nil, List.cons.injEq, and_true] at e
    obtain ⟨rfl, h⟩ := h
    have hx := R.ev x; rw [e.1] at hx
    have hy := R.ev y; rw [e.2] at hy
    have hx := hx.int
    have hy := hy.int
    have hxs : xs = #[x, y] := by apply Array.ext'; simpa using hxy
    subst hxs
    refine .pure R (v := .int k (if isMax then (if n > m then n else m) else (if n < m then n else m))) ?_ h (.of_rep (.int _ _))
    cases isMax
    · simp [execOp, ho, resolve, invoke, builtin, Builtin.min_, Builtin.min2, hx, hy]
    · simp [execOp, ho, resolve, invoke, builtin, Builtin.max_, Builtin.max2, hx, hy]
  · exact h.elim
end
end Lp

/-! LpJm -/

namespace Lp
open Go
def keq : TK → PV → PV → Option Bool
  | .str, .str a, .str b => some (decide (a = b))
  | .int _, .int k a, .int k' b => if k = k' then some (decide (a = b)) else none
  | _, _, _ => none
def mfind (t : TK) (key : PV) : List PV → Nat → Option (Option (Nat × PV))
  | [], _ => some none
  | .agg [k, v] :: es, i => match keq t key k with
    | some true => some (some (i, v))
    | some false => mfind t key es (i + 1)
    | none => none
  | _ :: _, _ => none
def q2f (D : TypeId → TInfo) (t : TypeId) (objs : List Obj) (K : KT) : Prop :=
  match (D t).kind with
  | .map _ _ => K (.omp objs.length 1) (newObj objs MT 2 []) (5 + 2 * objs.length)
  | _ => False
def found (ti : TInfo) (m : Option (Nat × PV)) (ok : Bool) : PV :=
  match m with
  | some (_, v) => if ok then .tup [v, .bool true] else v
  | none => if ok then .tup [q05 ti, .bool false] else q05 ti
def q24 (D : TypeId → TInfo) (t : TypeId) (x ix : PV) (ok : Bool) (objs : List Obj) (K : KT) : Prop :=
  match (D t).kind, x with
  | .map kt et, .omp k ver => ((D kt).kind = .str ∨ ∃ i, (D kt).kind = .int i) ∧ (D et).kind ≠ .none ∧ ∃ o, objs[k]? = some o ∧ o.live = true ∧ o.ver = ver ∧ o.sz = 2 ∧
      ∃ m, mfind (D kt).kind ix o.xs 0 = some m ∧ K (found (D et) m ok) objs (4 + 2 * k)
  | _, _ => False
def mput (key v : PV) (xs : List PV) (m : Option (Nat × PV)) : List PV :=
  match m with
  | some (i, _) => xs.set i (.agg [key, v])
  | none => xs ++ [.agg [key, v]]
def q1h (D : TypeId → TInfo) (t : TypeId) (x key v : PV) (objs : List Obj) (K : KT) : Prop :=
  match (D t).kind, x with
  | .map kt _, .omp k ver => ((D kt).kind = .str ∨ ∃ i, (D kt).kind = .int i) ∧ key.storable = true ∧ v.storable = true ∧ ∃ o, objs[k]? = some o ∧ o.live = true ∧ o.ver = ver ∧ o.sz = 2 ∧
      ∃ m, mfind (D kt).kind key o.xs 0 = some m ∧ K .dead (objs.set k { o with xs := mput key v o.xs m }) (5 + 2 * k)
  | _, _ => False
section
variable {P : Program} {base prot : Nat → Prop} {w0 : Wz} {S : St} {blk : Nat → Option Nat} {a : Act} {w : World} {D : TypeId → TInfo} {objs : List Obj} {ok : Nat → Prop}
theorem q20 (c : Array Value) : (mapOf c).size = c.size / 2 := by simp [mapOf]
theorem q3s (c : Array Value) (i : Nat) (h : i < c.size / 2) : (mapOf c)[i]? = some { key := c.getD (2 * i) undef, val := c.getD (2 * i + 1) undef, born := i } := by
  simp [mapOf, List.getElem?_map, h]
theorem mapOf_push {c : Array Value} {n : Nat} (hc : c.size = 2 * n) (k v : Value) : mapOf ((c.push k).push v) = (mapOf c).push { key := k, val := v, born := n } := by
  have h2 : ((c.push k).push v).size / 2 = n + 1 := by simp; omega
  have h1 : c.size / 2 = n := by omega
  apply Array.ext_getElem?
  intro i
  by_cases hi : i < n
  · rw [q3s _ _ (by omega), Array.getElem?_push, q20, h1, if_neg (by omega), q3s _ _ (by omega)]
    have e1 : ((c.push k).push v).getD (2 * i) undef = c.getD (2 * i) undef := by
      simp only [Array.getD_eq_getD_getElem?, Array.getElem?_push]
      rw [if_neg (by simp; omega), if_neg (by omega)]
    have e2 : ((c.push k).push v).getD (2 * i + 1) undef = c.getD (2 * i + 1) undef := by
      simp only [Array.getD_eq_getD_getElem?, Array.getElem?_push]
      rw [if_neg (by simp; omega), if_neg (by omega)]
    rw [e1, e2]
  · by_cases he : i = n
    · subst he
      rw [q3s _ _ (by omega), Array.getElem?_push, q20, h1, if_pos rfl]
      have e1 : ((c.push k).push v).getD (2 * i) undef = k := by
        simp only [Array.getD_eq_getD_getElem?, Array.getElem?_push]
        rw [if_neg (by simp; omega), if_pos (by omega)]; rfl
      have e2 : ((c.push k).push v).getD (2 * i + 1) undef = v := by
        simp only [Array.getD_eq_getD_getElem?, Array.getElem?_push]
        rw [if_pos (by simp; omega)]; rfl
      rw [e1, e2]
    · rw [Array.getElem?_eq_none (by rw [q20]; omega), Array.getElem?_eq_none (by simp [q20]; omega)]
theorem mapOf_set {c : Array Value} {n i : Nat} (hc : c.size = 2 * n) (hi : i < n) (k v : Value) :
    mapOf ((c.setIfInBounds (2 * i) k).setIfInBounds (2 * i + 1) v) = (mapOf c).modify i fun e => { e with key := k, val := v } := by
  have h1 : c.size / 2 = n := by omega
  apply Array.ext_getElem?
  intro j
  by_cases hj : j < n
  · rw [q3s _ _ (by simp; omega), Array.getElem?_modify, q3s _ _ (by omega)]
    simp only [Array.getD_eq_getD_getElem?, Array.getElem?_setIfInBounds, Array.size_setIfInBounds]
    by_cases e : i = j
    · subst e
      rw [if_neg (by omega), if_pos (by omega), if_pos (by omega)]
      simp only [if_true, Option.map_some]
      rw [if_pos (by omega)]
      simp
    · rw [if_neg (by omega), if_neg (by omega), if_neg (by omega), if_neg (by omega), if_neg e]
  · rw [Array.getElem?_eq_none (by rw [q20]; simp; omega), Array.getElem?_eq_none (by simp [q20]; omega)]
theorem q5d {g : Nat} {es : Array MapEntry} {n : Nat} (h : w.heap[g]? = some (.map es n)) : (getObj g).run P w = .ok (.map es n) w := by
  simp [getObj, Sem.run, h]
theorem run_setMap {g : Nat} {es : Array MapEntry} {n : Nat} (o : Go.Obj) (h : w.heap[g]? = some (.map es n)) : (setObj g o).run P w = .ok () { w with heap := w.heap.setIfInBounds g o } := by
  simp [setObj, Sem.run, h]
theorem bytes_beq (a b : List UInt8) : ((ByteArray.mk ⟨a⟩) == (ByteArray.mk ⟨b⟩)) = decide (a = b) := by
  show ByteArray.beq _ _ = _
  unfold ByteArray.beq
  simp only [List.beq_toArray]
  rw [Bool.eq_iff_iff]; simp
theorem keq_str {p q : PV} {r : Bool} (h : keq .str p q = some r) : ∃ a b, p = .str a ∧ q = .str b ∧ r = decide (a = b) := by
  cases p <;> cases q <;> simp only [keq, Option.some.injEq, reduceCtorEq] at h
  exact ⟨_, _, rfl, rfl, h.symm⟩
theorem keq_int {p q : PV} {r : Bool} {i : IntKind} (h : keq (.int i) p q = some r) : ∃ k a b, p = .int k a ∧ q = .int k b ∧ r = decide (a = b) := by
  cases p <;> cases q <;> simp only [keq, reduceCtorEq] at h
  split at h
  · rename_i hk
    subst hk
    simp only [Option.some.injEq] at h
    exact ⟨_, _, _, rfl, rfl, h.symm⟩
  · cases h
theorem keq_rep {t : TK} {p q : PV} {u v : Value} {r : Bool} {d : TypeDesc} (h : keq t p q = some r) (ht : (t = .str ∧ d = .string) ∨ ∃ i, t = .int i ∧ d = .int i) (hp : RepT w ok objs blk p u) (hq : RepS w ok objs blk q v) :
    Instr.sameNow d u v = some r ∧ (r = true → Instr.sameBits 10000 v u = true) := by
  rcases ht with ⟨rfl, rfl⟩ | ⟨i, rfl, rfl⟩
  · obtain ⟨a, b, rfl, rfl, rfl⟩ := keq_str h
    have hp' : Rep w ok (.str a) u := hp
    have hq' : Rep w ok (.str b) v := hq
    cases hp'; cases hq'
    simp only [Instr.sameNow, Instr.sameBits, bytes_beq]
    exact ⟨trivial, fun h => by simpa [eq_comm] using h⟩
  · obtain ⟨k, a, b, rfl, rfl, rfl⟩ := keq_int h
    have hp' : Rep w ok (.int k a) u := hp
    have hq' : Rep w ok (.int k b) v := hq
    cases hp'; cases hq'
    simp only [Instr.sameNow, Instr.sameBits, if_true]
    refine ⟨?_, fun h => ?_⟩
    · congr 1
    · simp only [decide_eq_true_eq] at h
      simp [h]
theorem mfind_cons {t : TK} {key x : PV} {xs : List PV} {i : Nat} {m : Option (Nat × PV)} (h : mfind t key (x :: xs) i = some m) :
    ∃ k v, x = .agg [k, v] ∧ ((keq t key k = some true ∧ m = some (i, v)) ∨ (keq t key k = some false ∧ mfind t key xs (i + 1) = some m)) := by
  match x, h with
  | .agg [k, v], h =>
    refine ⟨k, v, rfl, ?_⟩
    have h' : (match keq t key k with | some true => some (some (i, v)) | some false => mfind t key xs (i + 1) | none => none) = some m := h
    clear h
    generalize hk : keq t key k = o at h' ⊢
    match o, h' with
    | some true, h' => exact .inl ⟨rfl, by simpa using h'.symm⟩
    | some false, h' => exact .inr ⟨rfl, h'⟩
theorem q66 {t : TK} {key : PV} {u : Value} {d : TypeDesc} (ht : (t = .str ∧ d = .string) ∨ ∃ i, t = .int i ∧ d = .int i) (hp : RepT w ok objs blk key u) : ∀ (xs : List PV) (es : List MapEntry) (i : Nat) (m : Option (Nat × PV)), xs.length = es.length →
    (∀ (j : Nat) (k v : PV), xs[j]? = some (.agg [k, v]) → ∃ e, es[j]? = some e ∧ RepS w ok objs blk k e.key) → mfind t key xs i = some m →
    match m with
    | none => Instr.findNow d u es i = some none
    | some (n, v) => i ≤ n ∧ ∃ k e, xs[n - i]? = some (.agg [k, v]) ∧ es[n - i]? = some e ∧ Instr.findNow d u es i = some (some (n, e.val)) ∧ Instr.sameBits 10000 e.key u = true
  | [], es, i, m, hl, _, h => by
    have : es = [] := List.eq_nil_of_length_eq_zero hl.symm
    subst this
    simp only [mfind, Option.some.injEq] at h
    subst h
    rfl
  | x :: xs, [], i, m, hl, _, h => by simp at hl
  | x :: xs, e :: es, i, m, hl, he, h => by
    obtain ⟨k, v, hx, h2⟩ := mfind_cons h
    clear h
    subst hx
    obtain ⟨e', h0, hk⟩ := he 0 k v rfl
    simp only [List.getElem?_cons_zero, Option.some.injEq] at h0
    subst h0
    rcases h2 with ⟨h1, hm⟩ | ⟨h1, h⟩
    · subst hm
      obtain ⟨s1, s2⟩ := keq_rep h1 ht hp hk
      exact ⟨Nat.le_refl _, k, e, by simp, by simp, by simp [Instr.findNow, s1], s2 rfl⟩
    · obtain ⟨s1, _⟩ := keq_rep h1 ht hp hk
      have ih := q66 ht hp xs es (i + 1) m (by simpa using hl) (fun j k v hj => he (j + 1) k v (by simpa using hj)) h
      have hf : Instr.findNow d u (e :: es) i = Instr.findNow d u es (i + 1) := by simp [Instr.findNow, s1]
      cases m with
      | none => simp only [] at ih ⊢; rw [hf]; exact ih
      | some nv =>
        obtain ⟨n, v'⟩ := nv
        simp only [] at ih ⊢
        obtain ⟨g1, k', e', g2, g3, g4, g5⟩ := ih
        have hn : n - i = (n - (i + 1)) + 1 := by omega
        exact ⟨by omega, k', e', by rw [hn]; simpa using g2, by rw [hn]; simpa using g3, by rw [hf]; exact g4, g5⟩
theorem TOk.mapT {t : TypeId} {ti : TInfo} {k e : TypeId} (h : TOk P t ti) (hk : ti.kind = .map k e) : P.underlying t = some (.map k e) := by
  have := h.resolve_left (by rw [hk]; simp)
  rw [hk] at this; exact this.2
theorem TOk.intT {t : TypeId} {ti : TInfo} {k : IntKind} (h : TOk P t ti) (hk : ti.kind = .int k) : P.underlying t = some (.int k) := by
  have := h.resolve_left (by rw [hk]; simp)
  rw [hk] at this; exact this.2
theorem key_desc {kt : TypeId} (hD : ∀ t, TOk P t (D t)) (h : (D kt).kind = .str ∨ ∃ i, (D kt).kind = .int i) :
    ∃ d, P.underlying kt = some d ∧ (((D kt).kind = .str ∧ d = .string) ∨ ∃ i, (D kt).kind = .int i ∧ d = .int i) := by
  rcases h with h | ⟨i, h⟩
  · exact ⟨_, (hD kt).strT h, .inl ⟨h, rfl⟩⟩
  · exact ⟨_, (hD kt).intT h, .inr ⟨i, h, rfl⟩⟩
theorem q4o {kt : TypeId} {d : TypeDesc} {u : Value} (b : Bool) (hu : P.underlying kt = some d) (h : d = .string ∨ ∃ i, d = .int i) : (Instr.checkKey b 10000 kt u).run P w = .ok () w := by
  have key : ∀ n, (Instr.checkKey b (n + 1) kt u).run P w = .ok () w := by
    intro n
    rcases h with rfl | ⟨i, rfl⟩ <;> simp [Instr.checkKey, run_underlying hu]
  exact key 9999
theorem map_obj (R : Rel base prot w0 S blk a w) {k : Nat} {o : Obj} {g : Nat} (h1 : S.objs[k]? = some o) (h2 : o.live = true) (hb : blk k = some g) (hty : o.ty = MT) (hsz : o.sz = 2) :
    ∃ c, w.heap[g]? = some (.map (mapOf c) o.xs.length) ∧ c.size = 2 * o.xs.length ∧
      ∀ i x, o.xs[i]? = some x → x.cells.length = 2 ∧ ∀ j p, x.cells[j]? = some p → ∃ v, c[i * 2 + j]? = some v ∧ RepS w (okL base S.objs blk) S.objs blk p v := by
  have h := R.objs.ob k o h1 h2
  unfold ObjRep at h
  rw [hb] at h
  obtain ⟨c, x1, x2, x3⟩ := h
  have hc : c.size = 2 * o.xs.length := by have := x2.2 hty; rw [hsz] at this; omega
  refine ⟨c, ?_, hc, by rw [hsz] at x3; exact x3⟩
  rw [x1]
  unfold hobj
  rw [if_pos hty]
  congr 2
  omega
theorem q9h {R : PV → Value → Prop} {xs : List PV} {c : Array Value} (hc : c.size = 2 * xs.length)
    (hx : ∀ (i : Nat) (x : PV), xs[i]? = some x → x.cells.length = 2 ∧ ∀ (j : Nat) (p : PV), x.cells[j]? = some p → ∃ v, c[i * 2 + j]? = some v ∧ R p v) :
    ∀ (j : Nat) (k v : PV), xs[j]? = some (.agg [k, v]) → ∃ e, (mapOf c).toList[j]? = some e ∧ R k e.key ∧ R v e.val := by
  intro j k v hj
  have hlt : j < xs.length := (List.getElem?_eq_some_iff.1 hj).1
  obtain ⟨_, h⟩ := hx j _ hj
  obtain ⟨v0, a1, a2⟩ := h 0 k rfl
  obtain ⟨v1, b1, b2⟩ := h 1 v rfl
  refine ⟨_, by rw [Array.getElem?_toList]; exact q3s c j (by omega), ?_, ?_⟩
  · have : c.getD (2 * j) undef = v0 := by rw [Array.getD_eq_getD_getElem?, show 2 * j = j * 2 + 0 by omega, a1]; rfl
    rw [this]; exact a2
  · have : c.getD (2 * j + 1) undef = v1 := by rw [Array.getD_eq_getD_getElem?, show 2 * j + 1 = j * 2 + 1 by omega, b1]; rfl
    rw [this]; exact b2
theorem repS_new_map (objs : List Obj) (blk : Nat → Option Nat) (w : World) (ok : Nat → Prop) (g : Nat) :
    RepT w ok (newObj objs MT 2 []) (q0f blk objs.length (some g)) (.omp objs.length 1) (.map (some g)) :=
  ⟨rfl, _, q9c objs MT 2 [], Nat.le_refl _, fun _ _ => ⟨rfl, g, by unfold q0f; rw [if_pos rfl], rfl⟩⟩
theorem snd_makeMap {t : TypeId} {o : Oper} {K : KT} (ho : o.op = .makeMap t none) (R : Rel base prot w0 S blk a w) (h : q2f D t S.objs K) : Out P base prot w0 S o a w K := by
  unfold q2f at h
  split at h
  · refine ⟨.map (some w.heap.size), { w with heap := w.heap.push (.map #[] 0) }, _, _, _, _, .inl ?_, h, R.newObj (c := #[]) ?_ ⟨rfl, rfl⟩ ?_ (fun i x hx => by simp at hx), repS_new_map _ _ _ _ _, .of fun i x hx => by simp at hx⟩
    · simp [execOp, ho, Instr.makeMap]
    · simp [hobj, mapOf]
    · exact ⟨by simp, fun _ => by simp⟩
  · exact h.elim
theorem repT_found {ok : Nat → Prop} {objs : List Obj} {ti : TInfo} {v : Value} {p : PV} {b : Bool} (h : RepS w ok objs blk p v) (b2 : Bool) :
    RepT w ok objs blk (if b then .tup [p, .bool b2] else p) (if b then .tuple #[v, .bool b2] else v) := by
  cases b with
  | true =>
    refine ⟨[v, .bool b2], rfl, rfl, fun i q u h1 h2 => ?_⟩
    match i with
    | 0 => simp at h1 h2; subst h1; subst h2; exact h
    | 1 => simp at h1 h2; subst h1; subst h2; exact .of_rep (.bool _)
    | i + 2 => simp at h1
  | false => exact .of_repS h
theorem snd_lookup {t : TypeId} {x ix : Operand} {ok : Bool} {o : Oper} {K : KT} (ho : o.op = .lookup t x ix ok) (hD : ∀ t, TOk P t (D t)) (R : Rel base prot w0 S blk a w)
    (h : q24 D t (S.ev x) (S.ev ix) ok S.objs K) : Out P base prot w0 S o a w K := by
  have hx := R.ev x
  have hi := R.ev ix
  unfold q24 at h
  split at h
  · rename_i kt et k ver hk e
    rw [e] at hx
    obtain ⟨hkk, hke, ob, h1, h2, h3, hsz, m, hm, h⟩ := h
    obtain ⟨g, hb, hv, hty⟩ := hx.omp h1 h2 h3
    have hu := (hD t).mapT hk
    obtain ⟨d, hd, hdk⟩ := key_desc hD hkk
    obtain ⟨c, g1, g2, g3⟩ := map_obj R h1 h2 hb hty hsz
    have hent := q9h g2 g3
    have hck : ∀ b, (Instr.checkKey b 10000 kt (a.eval ix)).run P w = .ok () w := fun b => q4o b hd (by rcases hdk with ⟨_, h⟩ | ⟨i, _, h⟩ <;> simp [h])
    have hf := q66 hdk hi ob.xs (mapOf c).toList 0 m (by rw [Array.length_toList, q20]; omega) (fun j k v hj => let ⟨e, q1, q2, _⟩ := hent j k v hj; ⟨e, q1, q2⟩) hm
    obtain ⟨i, hinf, _, _, hz⟩ := (hD et).info hke
    cases m with
    | none =>
      simp only [] at hf
      refine .pure R (v := if ok then .tuple #[(D et).zero, .bool false] else (D et).zero) ?_ h ?_
      · simp only [execOp, ho, hv, Instr.lookup, Sem.run_bind, run_underlying hu, Result.andThen_ok, q5d g1, hck, Sem.run_pure, Instr.findKey, run_underlying hd, hf, zeroValue, typeInfo, run_program, hinf, hz]
      · exact repT_found (ti := D et) (.of_rep (q63 w _ (D et).zero)) false
    | some nv =>
      obtain ⟨n, v⟩ := nv
      simp only [] at hf
      obtain ⟨_, k', e', q2, q3, q4, _⟩ := hf
      obtain ⟨e'', r1, _, r3⟩ := hent _ _ _ q2
      rw [q3] at r1
      cases r1
      refine .pure R (v := if ok then .tuple #[e'.val, .bool true] else e'.val) ?_ h ?_
      · simp only [execOp, ho, hv, Instr.lookup, Sem.run_bind, run_underlying hu, Result.andThen_ok, q5d g1, hck, Sem.run_pure, Instr.findKey, run_underlying hd, q4]
      · exact repT_found (ti := D et) r3 true
  · exact h.elim
theorem q6p {t : TypeId} {x y z : Operand} {o : Oper} {K : KT} (ho : o.op = .mapUpdate t x y z ∨ o.op = .insert t x y z) (hD : ∀ t, TOk P t (D t)) (R : Rel base prot w0 S blk a w)
    (h : q1h D t (S.ev x) (S.ev y) (S.ev z) S.objs K) : Out P base prot w0 S o a w K := by
  have hx := R.ev x
  have hy := R.ev y
  have hz := R.ev z
  unfold q1h at h
  split at h
  · rename_i kt et k ver hk e
    rw [e] at hx
    obtain ⟨hkk, hks, hvs, ob, h1, h2, h3, hsz, m, hm, h⟩ := h
    obtain ⟨g, hb, hv, hty⟩ := hx.omp h1 h2 h3
    have hu := (hD t).mapT hk
    obtain ⟨d, hd, hdk⟩ := key_desc hD hkk
    obtain ⟨c, g1, g2, g3⟩ := map_obj R h1 h2 hb hty hsz
    have hent := q9h g2 g3
    have hck : ∀ b, (Instr.checkKey b 10000 kt (a.eval y)).run P w = .ok () w := fun b => q4o b hd (by rcases hdk with ⟨_, h⟩ | ⟨i, _, h⟩ <;> simp [h])
    have hf := q66 hdk hy ob.xs (mapOf c).toList 0 m (by rw [Array.length_toList, q20]; omega) (fun j k v hj => let ⟨e, q1, q2, _⟩ := hent j k v hj; ⟨e, q1, q2⟩) hm
    have hyS := q4v hy hks
    have hzS := q4v hz hvs
    have hgl : g < w.heap.size := (Array.getElem?_eq_some_iff.1 g1).1
    -- what is laid
    obtain ⟨c', hc1, hc2, hc3, hrun⟩ : ∃ c' : Array Value, c'.size = 2 * (mput (S.ev y) (S.ev z) ob.xs m).length ∧
        (∀ (R' : PV → Value → Prop), (∀ p v, RepS w (okL base S.objs blk) S.objs blk p v → R' p v) → ∀ (i : Nat) (x : PV), (mput (S.ev y) (S.ev z) ob.xs m)[i]? = some x → x.cells.length = 2 ∧ ∀ (j : Nat) (p : PV), x.cells[j]? = some p → ∃ v, c'[i * 2 + j]? = some v ∧ R' p v) ∧
        True ∧ (execOp a.eval o).run P w = .ok .skip { w with heap := w.heap.setIfInBounds g (.map (mapOf c') (c'.size / 2)) } := by
      cases m with
      | none =>
        simp only [] at hf
        refine ⟨(c.push (a.eval y)).push (a.eval z), by simp [mput]; omega, fun R' hR i x hxi => ?_, trivial, ?_⟩
        · simp only [mput] at hxi
          rw [List.getElem?_append] at hxi
          split at hxi
          · rename_i hi
            obtain ⟨q1, q2⟩ := g3 i x hxi
            refine ⟨q1, fun j p hp => ?_⟩
            obtain ⟨v, u1, u2⟩ := q2 j p hp
            have hj : j < 2 := by rw [← q1]; exact (List.getElem?_eq_some_iff.1 hp).1
            refine ⟨v, ?_, hR _ _ u2⟩
            rw [Array.getElem?_push, if_neg (by simp; omega), Array.getElem?_push, if_neg (by omega)]
            exact u1
          · rename_i hi
            have h0 : i - ob.xs.length = 0 := by
              cases hj : i - ob.xs.length with
              | zero => rfl
              | succ j => rw [hj] at hxi; simp at hxi
            rw [h0] at hxi
            simp only [List.getElem?_cons_zero, Option.some.injEq] at hxi
            subst hxi
            refine ⟨rfl, fun j p hp => ?_⟩
            match j with
            | 0 =>
              simp only [PV.cells, List.getElem?_cons_zero, Option.some.injEq] at hp
              subst hp
              exact ⟨a.eval y, by rw [Array.getElem?_push, if_neg (by simp; omega), Array.getElem?_push, if_pos (by omega)], hR _ _ hyS⟩
            | 1 =>
              simp only [PV.cells, List.getElem?_cons_succ, List.getElem?_cons_zero, Option.some.injEq] at hp
              subst hp
              exact ⟨a.eval z, by rw [Array.getElem?_push, if_pos (by simp; omega)], hR _ _ hzS⟩
            | j + 2 => simp [PV.cells] at hp
        · rw [mapOf_push g2]
          have hs : ((c.push (a.eval y)).push (a.eval z)).size / 2 = ob.xs.length + 1 := by simp; omega
          rw [hs]
          rcases ho with ho | ho <;> simp only [execOp, ho, hv, Instr.mapUpdate, Sem.run_bind, run_underlying hu, Result.andThen_ok, q5d g1, hck, Sem.run_pure, Instr.findKey, run_underlying hd, hf, run_setMap _ g1]
      | some nv =>
        obtain ⟨n, v⟩ := nv
        simp only [] at hf
        obtain ⟨_, k', e', q2, q3, q4, q5⟩ := hf
        rw [Nat.sub_zero] at q2 q3
        have hn : n < ob.xs.length := (List.getElem?_eq_some_iff.1 q2).1
        refine ⟨(c.setIfInBounds (2 * n) (a.eval y)).setIfInBounds (2 * n + 1) (a.eval z), by simp [mput]; omega, fun R' hR i x hxi => ?_, trivial, ?_⟩
        · simp only [mput] at hxi
          rw [List.getElem?_set] at hxi
          by_cases hin : n = i
          · subst hin
            simp [hn] at hxi
            subst hxi
            refine ⟨rfl, fun j p hp => ?_⟩
            match j with
            | 0 =>
              simp only [PV.cells, List.getElem?_cons_zero, Option.some.injEq] at hp
              subst hp
              exact ⟨a.eval y, by rw [Array.getElem?_setIfInBounds, if_neg (by omega), Array.getElem?_setIfInBounds, if_pos (by omega), if_pos (by omega)], hR _ _ hyS⟩
            | 1 =>
              simp only [PV.cells, List.getElem?_cons_succ, List.getElem?_cons_zero, Option.some.injEq] at hp
              subst hp
              exact ⟨a.eval z, by rw [Array.getElem?_setIfInBounds, if_pos (by omega), if_pos (by simp; omega)], hR _ _ hzS⟩
            | j + 2 => simp [PV.cells] at hp
          · rw [if_neg hin] at hxi
            obtain ⟨q1, q2⟩ := g3 i x hxi
            refine ⟨q1, fun j p hp => ?_⟩
            obtain ⟨v, u1, u2⟩ := q2 j p hp
            have hj : j < 2 := by rw [← q1]; exact (List.getElem?_eq_some_iff.1 hp).1
            refine ⟨v, ?_, hR _ _ u2⟩
            rw [Array.getElem?_setIfInBounds, if_neg (by omega), Array.getElem?_setIfInBounds, if_neg (by omega)]
            exact u1
        · rw [mapOf_set g2 hn]
          have hs : ((c.setIfInBounds (2 * n) (a.eval y)).setIfInBounds (2 * n + 1) (a.eval z)).size / 2 = ob.xs.length := by simp; omega
          rw [hs]
          have hes : (mapOf c)[n]? = some e' := by rw [← Array.getElem?_toList]; exact q3
          rcases ho with ho | ho <;> simp only [execOp, ho, hv, Instr.mapUpdate, Sem.run_bind, run_underlying hu, Result.andThen_ok, q5d g1, hck, Sem.run_pure, Instr.findKey, run_underlying hd, q4, hes, Option.map_some, Option.getD_some, Instr.keyThatStays, q5, if_true, run_setMap _ g1]
    have hheap : ({ w with heap := w.heap.setIfInBounds g (.map (mapOf c') (c'.size / 2)) } : World).heap[g]? = some (.map (mapOf c') (c'.size / 2)) := by simp [hgl]
    refine ⟨undef, _, .dead, _, _, q0f blk k (blk k), .inr ⟨hrun, rfl⟩, h, ?_, .of_rep (.dead _), .same (by simp)⟩
    refine R.setObj (o' := { ob with xs := mput (S.ev y) (S.ev z) ob.xs m }) ⟨rfl, rfl⟩ h1 h2 h2 (by simp) ?_ (fun g' hg' => .inl hg') (Nat.le_refl _) ?_ ?_
    · intro b z hbz hz
      have : g ≠ b := fun e => hbz (by rw [hb, e])
      simp [this]; exact hz
    · intro _
      refine ⟨rfl, rfl, rfl, fun hne => absurd hty hne, fun g' c' hg' hc' => ?_⟩
      rw [hb] at hg'; cases hg'
      rw [g1] at hc'; cases hc'
    · intro hmono
      unfold ObjRep
      have hbk : q0f blk k (blk k) k = some g := by unfold q0f; rw [if_pos rfl, hb]
      rw [hbk]
      refine ⟨c', ?_, ⟨?_, fun _ => ?_⟩, ?_⟩
      · rw [hheap]; unfold hobj; rw [if_pos hty]
      · show (mput (S.ev y) (S.ev z) ob.xs m).length * ob.sz ≤ _
        rw [hsz]; omega
      · show _ = (mput (S.ev y) (S.ev z) ob.xs m).length * ob.sz
        rw [hsz]; omega
      · intro i x hx
        obtain ⟨u1, u2⟩ := hc2 _ hmono i x hx
        have e : ∀ j, i * ob.sz + j = i * 2 + j := fun j => by rw [hsz]
        refine ⟨by rw [u1]; exact hsz.symm, fun j p hp => ?_⟩
        obtain ⟨v, y1, y2⟩ := u2 j p hp
        exact ⟨v, by show c'[i * ob.sz + j]? = some v; rw [e]; exact y1, y2⟩
  · exact h.elim
end
end Lp

/-! LpK -/

namespace Lp
open Go
def Enters (P : Program) (f : FuncId) : Prop := ∃ fn, P.funcs[f]? = some fn ∧ (fn.name == "runtime.NumGoroutine") = false ∧ fn.body.isNone = false
def FnSpec (P : Program) (f : FuncId) (args : List PV) (objs : List Obj) (r : PV) (objs' : List Obj) : Prop :=
  Enters P f ∧
  ∀ (w : World) (blk : Nat → Option Nat) (vs : List Value) (base : Nat → Prop), (glob.holds w.heap ∧ ∀ b, w.heap.size ≤ b → base b) →
    ObjsRel base (fun b => b < w.heap.size ∧ q0h objs blk b) objs blk w → RepL (RepT w (okL base objs blk) objs blk) args vs →
    Calls P f ⟨vs⟩ w fun e w' => ∃ v blk', e = .returned v ∧ ObjsRel base (fun b => b < w.heap.size ∧ q0h objs blk b) objs' blk' w' ∧
      RepT w' (okL base objs' blk') objs' blk' r v ∧ (∀ b, b < w.heap.size → q0h objs blk b → w'.heap[b]? = w.heap[b]?) ∧ w.heap.size ≤ w'.heap.size ∧ Sm w w'
def PV.shiftS (n : Nat) : PV → PV
  | .osl k ver => .osl (k + n) ver
  | .optr k ver i f => .optr (k + n) ver i f
  | .omp k ver => .omp (k + n) ver
  | p => p
def PV.shift (n : Nat) : PV → PV
  | .fn f a c => .fn f (a.map (.shiftS n)) (c.map (.shiftS n))
  | .tup cs => .tup (cs.map (.shiftS n))
  | .agg cs => .agg (cs.map (.shiftS n))
  | p => p.shiftS n
def PV.flat1 : PV → Bool
  | .int .. | .bool _ | .str _ | .nilp | .nilf | .nili | .nilm | .sl _ [] (some true) => true
  | _ => false
def PV.flat : PV → Bool
  | .tup cs => cs.all PV.flat1
  | p => p.flat1
def NoRefs (objs : List Obj) : Prop := ∀ o ∈ objs, ∀ x ∈ o.xs, ∀ p ∈ x.cells, p.ref = false
def lend (objs : List Obj) (p : PV) (p' : PV) : Prop :=
  match p with
  | .osl k ver => ∃ o, objs[k]? = some o ∧ o.live = true ∧ o.ver = ver ∧ (∀ x ∈ o.xs, ∀ c ∈ x.cells, c.ref = false) ∧ p' = .sl o.sz o.xs none
  | .optr k ver i f => ∃ o e, objs[k]? = some o ∧ o.live = true ∧ o.ver = ver ∧ o.xs[i]? = some e ∧ f = 0 ∧ (∀ c ∈ e.cells, c.ref = false) ∧ p' = .addr e
  | p => p.pure = true ∧ p' = p
def lendL (objs : List Obj) : List PV → List PV → Prop
  | [], [] => True
  | p :: ps, q :: qs => lend objs p q ∧ lendL objs ps qs
  | _, _ => False
def PV.atom : PV → Bool
  | .int .. | .bool _ | .str _ => true
  | _ => false
def FnUse (P : Program) (f : FuncId) (args : List PV) (objs : List Obj) (r : PV) (objs' : List Obj) : Prop :=
  Enters P f ∧ objs'.length = objs.length ∧
  ∀ (base prot : Nat → Prop) (w0 : Wz) (tmps : List PV) (blk : Nat → Option Nat) (a : Act) (w : World) (vs : List Value), Rel base prot w0 ⟨tmps, objs⟩ blk a w →
    RepL (RepT w (okL base objs blk) objs blk) args vs →
    Calls P f ⟨vs⟩ w fun e w' => ∃ v blk', e = .returned v ∧ Rel base prot w0 ⟨tmps, objs'⟩ blk' a w' ∧ RepT w' (okL base objs' blk') objs' blk' r v
inductive CallR (P : Program) (f : FuncId) (args : List PV) (objs : List Obj) : PV → List Obj → Nat → Prop
  | pure (r : PV) (hargs : args.all PV.pure = true) (h : FnSpec P f args [] r []) : CallR P f args objs r objs 0
  | made (r : PV) (o : Obj) (hargs : args.all PV.pure = true) (hnew : NoRefs [o]) (h : FnSpec P f args [] r [o]) : CallR P f args objs (r.shift objs.length) (objs ++ [o]) 2
  | used (r : PV) (objs' : List Obj) (h : FnUse P f args objs r objs') : CallR P f args objs r objs' 2
  | madeL (ver : Nat) (o : Obj) (args' : List PV) (hargs : lendL objs args args') (hnew : ∀ x ∈ o.xs, ∀ p ∈ x.cells, p.atom = true) (h : FnSpec P f args' [] (.osl 0 ver) [o]) : CallR P f args objs (.osl objs.length ver) (objs ++ [o]) 2
  | madeT (ver : Nat) (q : PV) (o : Obj) (args' : List PV) (hargs : lendL objs args args') (hnew : ∀ x ∈ o.xs, ∀ p ∈ x.cells, p.atom = true) (hq : q.atom = true) (h : FnSpec P f args' [] (.tup [.osl 0 ver, q]) [o]) : CallR P f args objs (.tup [.osl objs.length ver, q]) (objs ++ [o]) 2
  | lent (r : PV) (args' : List PV) (hargs : lendL objs args args') (hr : r.flat = true) (h : FnSpec P f args' [] r []) : CallR P f args objs r objs 1
def callR (P : Program) (f : PV) (args : List PV) (objs : List Obj) (K : KT) : Prop :=
  match f with
  | .fn g first cap => ∃ r objs' t, CallR P g (first ++ args ++ cap) objs r objs' t ∧ K r objs' t
  | _ => False
def q13 (D : TypeId → TInfo) (b : Builtin) (ts : List TypeId) (args : List Operand) (ev : Operand → PV) (objs : List Obj) (K : KT) : Prop :=
  match b, ts, args with
  | .len, [t], [x] => lenR D t (ev x) objs K
  | .append, [t, u], [s, x] => q07 D t u (ev s) (ev x) objs K
  | .max, _, xs => q08 true (xs.map ev) fun r => K r objs 0
  | .min, _, xs => q08 false (xs.map ev) fun r => K r objs 0
  | _, _, _ => False
def opR (P : Program) (D : TypeId → TInfo) (own : Bool) (ev : Operand → PV) (objs : List Obj) (op : Op) (K : KT) : Prop :=
  match op with
  | .move x | .assign x => K (ev x) objs 0
  | .pick c x y => pickR (ev c) (ev x) (ev y) objs K
  | .alloc t => q0b t (D t) objs K
  | .box t x => boxR t (D t) (ev x) objs K
  | .build t ps => q1p D t (ps.toList.map fun x => (x.1, ev x.2)) objs K
  | .buildSlice t n ps => q00 D own t n (ps.toList.map fun x => (x.1, ev x.2)) objs K
  | .load t x => loadR (D t) (ev x) objs K
  | .store t x y => q0a (D t) (ev x) (ev y) objs K
  | .nilCheck x => q0q (ev x) objs K
  | .binOp b t x y _ => binR P (D t) t b (ev x) (ev y) fun r => K r objs 0
  | .unOp u _ x => unR u (ev x) fun r => K r objs 0
  | .convert s t x => convO D s t (ev x) objs K
  | .makeFunc (.func f) first cap => q04 f (first.toList.map ev) (cap.toList.map ev) objs K
  | .makeSlice t l c => q02 D t (ev l) (ev c) objs K
  | .slice t x lo hi none => q1x D t (ev x) (lo.map ev) (hi.map ev) objs K
  | .fieldAddr t x f => q0i D t (ev x) f objs K
  | .field t x f => q4n D t (ev x) f objs K
  | .indexAddr t x i => q0j D t (ev x) (ev i) objs K
  | .index t x i => q2z D t (ev x) (ev i) objs K
  | .extract x i => q17 (ev x) i objs K
  | .call { callee := .builtin b, args, argTypes } => q13 D b argTypes.toList args.toList ev objs K
  | .call { callee := .value f, args, .. } => callR P (ev f) (args.toList.map ev) objs K
  | .makeMap t none => q2f D t objs K
  | .lookup t x ix ok => q24 D t (ev x) (ev ix) ok objs K
  | .mapUpdate t x k v => q1h D t (ev x) (ev k) (ev v) objs K
  | .insert t x k v => q1h D t (ev x) (ev k) (ev v) objs K
  | _ => False
section
variable {P : Program} {base prot : Nat → Prop} {w0 : Wz} {S : St} {blk : Nat → Option Nat} {a : Act} {w : World} {D : TypeId → TInfo}
theorem callsToIn {f : FuncId} {args : Array Value} {R : Ending → World → Prop} (h : Calls P f args w R) (l : Option Nat) : CallsIn (fen l) 0 P f args w R := by
  have h' : CallsIn Fence.wide 0 P f args w R := callsIn_wide.2 h
  cases l with
  | none => exact h'
  | some l => exact h'.inRound l
theorem Rep.anyOk {ok : Nat → Prop} {p : PV} {v : Value} (h : Rep w ok p v) {ok' : Nat → Prop} (hok : ∀ b, b < w.heap.size → ok b → ok' b) : Rep w ok' p v :=
  h.mono (Nat.le_refl _) hok (fun _ _ _ h => h)
theorem q9i {w' : World} {ok ok' : Nat → Prop} {p : PV} {v : Value} (hp : p.flat1 = true) (h : Rep w ok p v) : Rep w' ok' p v := by
  cases h with
  | sl sz xs q hq =>
    exfalso
    unfold PV.flat1 at hp
    split at hp <;> first | (cases hp; done) | skip
    all_goals first | (rename_i e; cases e; done) | (rename_i e; injection e with _ _ e3; exact hq e3) | skip
  | slz sz q hq =>
    exfalso
    unfold PV.flat1 at hp
    split at hp <;> first | (cases hp; done) | skip
    all_goals first | (rename_i e; cases e; done) | (rename_i e; injection e with _ _ e3; exact hq e3) | skip
  | slnil sz q hq => exact .slnil sz q hq
  | int => exact .int _ _
  | bool => exact .bool _
  | str => exact .str _
  | nilp => exact .nilp
  | nilf => exact .nilf
  | nili => exact .nili
  | nilm => exact .nilm
  | _ => simp [PV.flat1] at hp
theorem q9j {p : PV} (h : p.flat1 = true) : p.ref = false := by
  cases p <;> first | rfl | (simp [PV.flat1] at h)
theorem flat_rep {ok ok' : Nat → Prop} {objs objs' : List Obj} {blk blk' : Nat → Option Nat} {w' : World} {r : PV} {v : Value} (hr : r.flat = true) (h : RepT w ok objs blk r v) : RepT w' ok' objs' blk' r v := by
  cases r with
  | tup cs =>
    obtain ⟨vs, rfl, h1, h2⟩ := h
    refine ⟨vs, rfl, h1, fun i p u hp hu => ?_⟩
    have hf := List.all_eq_true.1 hr p (List.mem_of_getElem? hp)
    exact .of_rep (q9i hf ((h2 i p u hp hu).rep (q9j hf)))
  | fn f a c => simp [PV.flat, PV.flat1] at hr
  | agg cs => simp [PV.flat, PV.flat1] at hr
  | _ =>
    simp only [PV.flat] at hr
    exact .of_rep (q9i hr (RepS.rep (w := w) (ok := ok) (objs := objs) (blk := blk) h (q9j hr)))
theorem get_end (objs : List Obj) (o : Obj) : (objs ++ [o])[objs.length]? = some o := by simp
def q5e (base : Nat → Prop) (S : St) (blk : Nat → Option Nat) (w : World) (b : Nat) : Prop := okL base S.objs blk b ∨ w.heap.size ≤ b
theorem q0r (blk : Nat → Option Nat) (b : Nat) : q0h [] blk b := fun k o h => by simp at h
theorem ok_back {objs' : List Obj} {blk' : Nat → Option Nat} (R : Rel base prot w0 S blk a w) {b : Nat} (h : okL (q5e base S blk w) objs' blk' b) : okL base S.objs blk b := by
  rcases h.1 with h | h
  · exact h
  · refine ⟨R.bs b (Nat.le_trans R.gr h), fun k o h1 h2 h3 => ?_⟩
    have := live_lt R.objs h1 h2 h3
    omega
theorem ok_back1 {o : Obj} {blk' : Nat → Option Nat} (R : Rel base prot w0 S blk a w) (ho : o.live = true) {b : Nat} (h : okL (q5e base S blk w) [o] blk' b) :
    okL base (S.objs ++ [o]) (q0f blk S.objs.length (blk' 0)) b := by
  have h0 := ok_back R h
  refine ⟨h0.1, fun k ob h1 h2 => ?_⟩
  rcases q2s h1 with ⟨hk, h1⟩ | ⟨rfl, rfl⟩
  · unfold q0f; rw [if_neg (by omega)]; exact h0.2 k ob h1 h2
  · unfold q0f; rw [if_pos rfl]; exact h.2 0 ob rfl h2
theorem Rel.made {w' : World} {blk' : Nat → Option Nat} {o : Obj} (R : Rel base prot w0 S blk a w) (hg : Grew w w') (hnew : NoRefs [o])
    (h : ObjsRel (q5e base S blk w) (fun b => b < w.heap.size ∧ q0h [] blk b) [o] blk' w') :
    Rel base prot w0 ⟨S.tmps, S.objs ++ [o]⟩ (q0f blk S.objs.length (blk' 0)) a w' := by
  cases ho : o.live with
  | false =>
    have hb : ∀ k, k < S.objs.length → q0f blk S.objs.length (blk' 0) k = blk k := fun k hk => by unfold q0f; rw [if_neg (by omega)]
    have ho' : ObjsTo w w' S.objs (S.objs ++ [o]) blk (q0f blk S.objs.length (blk' 0)) := by
      intro k ob hk
      have hkl := (List.getElem?_eq_some_iff.1 hk).1
      exact ⟨ob, by rw [List.getElem?_append, if_pos hkl]; exact hk, Nat.le_refl _, fun hl _ => ⟨hl, hb k hkl, rfl, rfl, fun _ => rfl, fun g c _ hc => ⟨c, hg.2.1 g _ hc, rfl⟩⟩⟩
    have hget : ∀ (k : Nat) (ob : Obj), (S.objs ++ [o])[k]? = some ob → ob.live = true → k < S.objs.length ∧ S.objs[k]? = some ob := by
      intro k ob h1 h2
      rcases q2s h1 with h1 | ⟨_, rfl⟩
      · exact h1
      · rw [ho] at h2; cases h2
    have hok : ∀ b, okL base S.objs blk b → okL base (S.objs ++ [o]) (q0f blk S.objs.length (blk' 0)) b := fun b hb0 => ⟨hb0.1, fun k ob h1 h2 => by
      obtain ⟨hk, h1⟩ := hget k ob h1 h2
      rw [hb k hk]; exact hb0.2 k ob h1 h2⟩
    refine R.change hg.1 (fun b x _ h => hg.2.1 b x h) (fun b _ h => hok b h) ho' ⟨?_, ?_, ?_⟩ hg.2.2
    · intro k ob h1 h2
      obtain ⟨hk, h1⟩ := hget k ob h1 h2
      have hh := R.objs.ob k ob h1 h2
      unfold ObjRep at hh ⊢
      rw [hb k hk]
      cases hbk : blk k with
      | none => rw [hbk] at hh; exact hh
      | some g =>
        rw [hbk] at hh
        obtain ⟨c', x1, x2, x3⟩ := hh
        refine ⟨c', hg.2.1 g _ x1, x2, fun i x hx => ⟨(x3 i x hx).1, fun j p hp => ?_⟩⟩
        obtain ⟨v, y1, y2⟩ := (x3 i x hx).2 j p hp
        exact ⟨v, y1, y2.mono hg.1 (fun b _ h => hok b h) (fun b x _ h => hg.2.1 b x h) ho'⟩
    · intro k k' ob ob' g hne h1 h2 h3 h4 h5 h6
      obtain ⟨hk, h1⟩ := hget k ob h1 h2
      obtain ⟨hk', h3⟩ := hget k' ob' h3 h4
      rw [hb k hk] at h5; rw [hb k' hk'] at h6
      exact R.objs.dis k k' ob ob' g hne h1 h2 h3 h4 h5 h6
    · intro k ob g h1 h2 h3 h4
      obtain ⟨hk, h1⟩ := hget k ob h1 h2
      rw [hb k hk] at h3
      exact R.objs.np k ob g h1 h2 h3 h4
  | true =>
    refine R.addObj hg (fun g hgb => ?_) fun hr => ?_
    · rcases Nat.lt_or_ge g w.heap.size with hlt | hge
      · exact absurd ⟨hlt, q0r blk g⟩ (h.np 0 o g rfl ho hgb)
      · exact hge
    · have hh := h.ob 0 o rfl ho
      unfold ObjRep at hh ⊢
      have hb' : q0f blk S.objs.length (blk' 0) S.objs.length = blk' 0 := by unfold q0f; rw [if_pos rfl]
      rw [hb']
      cases hb0 : blk' 0 with
      | none => rw [hb0] at hh; exact hh
      | some g =>
        rw [hb0] at hh
        obtain ⟨c, x1, x2, x3⟩ := hh
        refine ⟨c, x1, x2, fun i x hx => ⟨(x3 i x hx).1, fun j p hp => ?_⟩⟩
        obtain ⟨v, y1, y2⟩ := (x3 i x hx).2 j p hp
        refine ⟨v, y1, .of_rep ((y2.rep (hnew o (by simp) x (List.mem_of_getElem? hx) p (List.mem_of_getElem? hp))).anyOk fun b _ hbk => ?_)⟩
        rw [← hb0]
        exact ok_back1 R ho hbk
theorem q67 (base prot : Nat → Prop) (blk : Nat → Option Nat) (w : World) : ObjsRel base prot [] blk w :=
  ⟨fun k o h => by simp at h, fun k k' o o' g _ h => by simp at h, fun k o g h => by simp at h⟩
theorem repL_pure {args : List PV} {vs : List Value} (h : RepL (RepT w (okL base S.objs blk) S.objs blk) args vs) (hp : args.all PV.pure = true) :
    RepL (RepT w (okL (q5e base S blk w) [] blk) [] blk) args vs :=
  ⟨h.1, fun i p v a b => .of_rep (((h.2 i p v a b).rep (List.all_eq_true.1 hp p (List.mem_of_getElem? a))).anyOk fun _ _ hb => ⟨.inl hb, q0r _ _⟩)⟩
theorem q25 {w' : World} (h : ∀ b, b < w.heap.size → q0h [] blk b → w'.heap[b]? = w.heap[b]?) (hs : w.heap.size ≤ w'.heap.size ∧ Sm w w') : Grew w w' :=
  ⟨hs.1, fun b x hx => by rw [h b (Array.getElem?_eq_some_iff.1 hx).1 (q0r _ _)]; exact hx, hs.2⟩
theorem lend_rep (R : Rel base prot w0 S blk a w) {p p' : PV} {v : Value} (h : lend S.objs p p') (hr : RepT w (okL base S.objs blk) S.objs blk p v) : Rep w (fun _ => True) p' v := by
  cases p with
  | osl k ver =>
    obtain ⟨o, h1, h2, h3, h4, rfl⟩ := h
    have hh := hr.osl h1 h2 h3
    unfold Hdr at hh
    cases hb : blk k with
    | none =>
      rw [hb] at hh
      rw [hh.1, hh.2]
      exact .slnil _ _ (by simp)
    | some g =>
      rw [hb] at hh
      obtain ⟨cap, c, hv, x1, x2, x3, x4⟩ := hh
      obtain ⟨c', y1, y2, y3⟩ := q2k R h1 h2 hb (hr.osl_ty h1 h2 h3)
      rw [x1] at y1; cases y1
      rw [hv]
      refine .sl o.sz o.xs none (by simp) g 0 cap (fun i j => (c[i * o.sz + j]?).getD undef) (fun _ => ⟨trivial, (Array.getElem?_eq_some_iff.1 x1).1⟩) x2 x3 (fun i x hx => (y3 i x hx).1) ?_ ?_
      · intro i x j p hx hp
        obtain ⟨u, u1, _⟩ := (y3 i x hx).2 j p hp
        simp [World.cell?, x1, u1]
      · intro i x j p hx hp
        obtain ⟨u, u1, u2⟩ := (y3 i x hx).2 j p hp
        rw [u1, Option.getD_some]
        exact (u2.rep (h4 x (List.mem_of_getElem? hx) p (List.mem_of_getElem? hp))).anyOk fun _ _ _ => trivial
  | optr k ver i f =>
    obtain ⟨o, e, h1, h2, h3, h4, rfl, h5, rfl⟩ := h
    obtain ⟨g, hb, hv, hty⟩ := hr.optr h1 h2 h3
    obtain ⟨y1, y2⟩ := obj_at R.objs h1 h2 h4 hb hty
    obtain ⟨c, x1, _⟩ := q2k R h1 h2 hb hty
    rw [hv]
    refine .ofAt ⟨trivial, (Array.getElem?_eq_some_iff.1 x1).1⟩ fun j p hp => ?_
    obtain ⟨u, u1, u2⟩ := y2 j p hp
    exact ⟨u, u1, (u2.rep (h5 p (List.mem_of_getElem? hp))).anyOk fun _ _ _ => trivial⟩
  | _ =>
    obtain ⟨h1, rfl⟩ := h
    exact (hr.rep h1).anyOk fun _ _ _ => trivial
theorem q6q (R : Rel base prot w0 S blk a w) : ∀ {ps qs : List PV} {vs : List Value}, lendL S.objs ps qs → RepL (RepT w (okL base S.objs blk) S.objs blk) ps vs → RepL (Rep w (fun _ => True)) qs vs
  | [], [], vs, _, h => ⟨h.1, fun i p v hp => by simp at hp⟩
  | p :: ps, q :: qs, vs, h, hr => by
    obtain ⟨h1, h2⟩ := h
    match vs, hr with
    | [], hr => exact absurd hr.1 (by simp)
    | v :: vs, hr =>
      have ih := q6q R h2 ⟨by simpa using hr.1, fun i p u a b => hr.2 (i + 1) p u (by simpa using a) (by simpa using b)⟩
      refine ⟨by simpa using ih.1, fun i p' u hp hu => ?_⟩
      cases i with
      | zero => simp at hp hu; subst hp; subst hu; exact lend_rep R h1 (hr.2 0 p v rfl rfl)
      | succ i => exact ih.2 i p' u (by simpa using hp) (by simpa using hu)
theorem RepS.noObjs {w' : World} {ok : Nat → Prop} {blk' : Nat → Option Nat} {p : PV} {v : Value} (h : RepS w' ok [] blk' p v) : Rep w' ok p v := by
  cases p with
  | osl k ver => obtain ⟨_, o, h, _⟩ := h; simp at h
  | optr k ver i f => obtain ⟨_, o, h, _⟩ := h; simp at h
  | omp k ver => obtain ⟨_, o, h, _⟩ := h; simp at h
  | _ => exact h
def PV.mapS (f : PV → PV) : PV → PV
  | .fn g a c => .fn g (a.map f) (c.map f)
  | .tup cs => .tup (cs.map f)
  | .agg cs => .agg (cs.map f)
  | p => f p
theorem RepT.mapS {w' : World} {ok ok' : Nat → Prop} {objs objs' : List Obj} {blk blk' : Nat → Option Nat} {p : PV} {v : Value} {f : PV → PV} (h : RepT w' ok objs blk p v)
    (hf : ∀ q u, RepS w' ok objs blk q u → RepS w' ok' objs' blk' (f q) u) :
    RepT w' ok' objs' blk' (p.mapS f) v := by
  have hl : ∀ cs vs, RepL (RepS w' ok objs blk) cs vs → RepL (RepS w' ok' objs' blk') (cs.map f) vs := by
    intro cs vs h
    refine ⟨by simpa using h.1, fun i p v hp hv => ?_⟩
    rw [List.getElem?_map] at hp
    cases hc : cs[i]? with
    | none => rw [hc] at hp; simp at hp
    | some q => rw [hc] at hp; simp at hp; subst hp; exact hf q v (h.2 i q v hc hv)
  cases p with
  | fn g a c => obtain ⟨va, vc, rfl, h1, h2⟩ := h; exact ⟨va, vc, rfl, hl _ _ h1, hl _ _ h2⟩
  | tup cs => obtain ⟨vs, rfl, h1⟩ := h; exact ⟨vs, rfl, hl _ _ h1⟩
  | agg cs => obtain ⟨vs, rfl, h1⟩ := h; exact ⟨vs, rfl, hl _ _ h1⟩
  | _ => exact .of_repS (hf _ _ h)
theorem shift_eq (n : Nat) (p : PV) : p.shift n = p.mapS (.shiftS n) := by
  cases p <;> rfl
theorem id_eq (p : PV) : p = p.mapS id := by
  cases p <;> simp [PV.mapS]
theorem q5f {p : PV} (h : p.atom = true) : p.ref = false := by cases p <;> first | rfl | (simp [PV.atom] at h)
theorem atom_rep {w' : World} {ok ok' : Nat → Prop} {objs objs' : List Obj} {blk blk' : Nat → Option Nat} {p : PV} {v : Value} (hp : p.atom = true) (h : RepS w ok objs blk p v) : RepS w' ok' objs' blk' p v := by
  have h' := h.rep (q5f hp)
  refine .of_rep ?_
  cases p <;> simp [PV.atom] at hp <;> cases h' <;> constructor
theorem objs_atoms {base' base'' prot' : Nat → Prop} {o : Obj} {blk' : Nat → Option Nat} {w' : World} (h : ObjsRel base' prot' [o] blk' w') (ho : ∀ x ∈ o.xs, ∀ p ∈ x.cells, p.atom = true) : ObjsRel base'' prot' [o] blk' w' := by
  refine ⟨fun k ob h1 h2 => ?_, h.dis, h.np⟩
  have hh := h.ob k ob h1 h2
  have he : ob = o := by
    cases k with
    | zero => simp at h1; exact h1.symm
    | succ k => simp at h1
  subst he
  unfold ObjRep at hh ⊢
  cases hb : blk' k with
  | none => rw [hb] at hh; exact hh
  | some g =>
    rw [hb] at hh
    obtain ⟨c, x1, x2, x3⟩ := hh
    exact ⟨c, x1, x2, fun i x hx => ⟨(x3 i x hx).1, fun j p hp => let ⟨v, y1, y2⟩ := (x3 i x hx).2 j p hp; ⟨v, y1, atom_rep (ho x (List.mem_of_getElem? hx) p (List.mem_of_getElem? hp)) y2⟩⟩⟩
theorem call_sound {f : FuncId} {args : List PV} {vs : List Value} {r : PV} {objs' : List Obj} {t : Nat} (R : Rel base prot w0 S blk a w) (h : CallR P f args S.objs r objs' t)
    (hargs : RepL (RepT w (okL base S.objs blk) S.objs blk) args vs) :
    Enters P f ∧ Calls P f ⟨vs⟩ w fun e w' => ∃ v blk', e = .returned v ∧ Rel base prot w0 ⟨S.tmps, objs'⟩ blk' a w' ∧ RepT w' (okL base objs' blk') objs' blk' r v := by
  cases h with
  | pure r hp h =>
    refine ⟨h.1, (h.2 w blk vs (q5e base S blk w) ⟨R.globOk, fun b hb => .inr hb⟩ (q67 _ _ _ _) (repL_pure hargs hp)).mono fun e w' ⟨v, blk', h1, h2, h3, h4, h5⟩ => ?_⟩
    have hg := q25 h4 h5
    refine ⟨v, blk, h1, R.grew hg, ?_⟩
    rw [id_eq r]
    refine h3.mapS (f := id) fun q u hq => ?_
    have hq' := hq.noObjs
    refine .of_rep (hq'.mono (Nat.le_refl _) (fun b _ hb => ?_) (fun _ _ _ h => h))
    exact ok_back R hb
  | made r o hp hnew h =>
    refine ⟨h.1, (h.2 w blk vs (q5e base S blk w) ⟨R.globOk, fun b hb => .inr hb⟩ (q67 _ _ _ _) (repL_pure hargs hp)).mono fun e w' ⟨v, blk', h1, h2, h3, h4, h5⟩ => ?_⟩
    have hg := q25 h4 h5
    refine ⟨v, q0f blk S.objs.length (blk' 0), h1, R.made hg hnew h2, ?_⟩
    rw [shift_eq]
    refine h3.mapS fun q u hq => ?_
    have h0 : ∀ (k : Nat) (ob : Obj), [o][k]? = some ob → k = 0 ∧ ob = o := by
      intro k ob hk
      cases k with
      | zero => simp at hk; exact ⟨rfl, hk.symm⟩
      | succ k => simp at hk
    have hbl : q0f blk S.objs.length (blk' 0) S.objs.length = blk' 0 := by unfold q0f; rw [if_pos rfl]
    cases q with
    | osl k ver =>
      obtain ⟨ho, ob, g1, g2, g3⟩ := hq
      obtain ⟨rfl, rfl⟩ := h0 k ob g1
      refine ⟨ho, ob, by simp, g2, fun hl hv => ?_⟩
      obtain ⟨hM, this⟩ := g3 hl hv
      refine ⟨hM, ?_⟩
      unfold Hdr at this ⊢
      rw [Nat.zero_add, hbl]; exact this
    | optr k ver i f =>
      obtain ⟨ho, ob, g1, g2, g3⟩ := hq
      obtain ⟨rfl, rfl⟩ := h0 k ob g1
      refine ⟨ho, ob, by simp, g2, fun hl hv => ?_⟩
      obtain ⟨hM, g, e1, e2⟩ := g3 hl hv
      exact ⟨hM, g, by rw [Nat.zero_add, hbl]; exact e1, e2⟩
    | omp k ver =>
      obtain ⟨ho, ob, g1, g2, g3⟩ := hq
      obtain ⟨rfl, rfl⟩ := h0 k ob g1
      refine ⟨ho, ob, by simp, g2, fun hl hv => ?_⟩
      obtain ⟨hM, g, e1, e2⟩ := g3 hl hv
      exact ⟨hM, g, by rw [Nat.zero_add, hbl]; exact e1, e2⟩
    | _ =>
      have hq' : Rep w' _ _ u := hq
      cases hl : o.live with
      | true => exact .of_rep (hq'.mono (Nat.le_refl _) (fun b _ hb => ok_back1 R hl hb) (fun _ _ _ h => h))
      | false =>
        refine .of_rep (hq'.mono (Nat.le_refl _) (fun b _ hb => ?_) (fun _ _ _ h => h))
        have h0 := ok_back R hb
        refine ⟨h0.1, fun k ob m1 m2 => ?_⟩
        rcases q2s m1 with ⟨hk, m3⟩ | ⟨_, eo⟩
        · unfold q0f; rw [if_neg (by omega)]; exact h0.2 k ob m3 m2
        · rw [eo, hl] at m2; cases m2
  | used r objs' h => exact ⟨h.1, h.2.2 base prot w0 S.tmps blk a w vs R hargs⟩
  | madeL ver o args' hl hnew h =>
    have ha := q6q R hl hargs
    refine ⟨h.1, (h.2 w blk vs (fun _ => True) ⟨R.globOk, fun _ _ => trivial⟩ (q67 _ _ _ _) ⟨ha.1, fun i p v a b => .of_rep ((ha.2 i p v a b).anyOk fun _ _ _ => ⟨trivial, q0r _ _⟩)⟩).mono fun e w' ⟨v, blk', h1, h2, h3, h4, h5⟩ => ?_⟩
    have hg := q25 h4 h5
    have hn : NoRefs [o] := fun ob hob x hx p hp => by
      have : ob = o := by simpa using hob
      subst this
      exact q5f (hnew x hx p hp)
    refine ⟨v, q0f blk S.objs.length (blk' 0), h1, R.made hg hn (objs_atoms h2 hnew), ?_⟩
    have hbl : q0f blk S.objs.length (blk' 0) S.objs.length = blk' 0 := by unfold q0f; rw [if_pos rfl]
    obtain ⟨ho, ob, g1, g2, g3⟩ := h3
    have he : ob = o := by simpa using g1.symm
    subst he
    refine ⟨ho, ob, by simp, g2, fun hl hv => ?_⟩
    obtain ⟨hM, this⟩ := g3 hl hv
    refine ⟨hM, ?_⟩
    unfold Hdr at this ⊢
    rw [hbl]; exact this
  | madeT ver q o args' hl hnew hq h =>
    have ha := q6q R hl hargs
    refine ⟨h.1, (h.2 w blk vs (fun _ => True) ⟨R.globOk, fun _ _ => trivial⟩ (q67 _ _ _ _) ⟨ha.1, fun i p v a b => .of_rep ((ha.2 i p v a b).anyOk fun _ _ _ => ⟨trivial, q0r _ _⟩)⟩).mono fun e w' ⟨v, blk', h1, h2, h3, h4, h5⟩ => ?_⟩
    have hg := q25 h4 h5
    have hn : NoRefs [o] := fun ob hob x hx p hp => by
      have : ob = o := by simpa using hob
      subst this
      exact q5f (hnew x hx p hp)
    refine ⟨v, q0f blk S.objs.length (blk' 0), h1, R.made hg hn (objs_atoms h2 hnew), ?_⟩
    have hbl : q0f blk S.objs.length (blk' 0) S.objs.length = blk' 0 := by unfold q0f; rw [if_pos rfl]
    obtain ⟨us, rfl, h3⟩ := h3
    refine ⟨us, rfl, h3.1, fun i p u hp hu => ?_⟩
    match i with
    | 0 =>
      cases hp
      obtain ⟨ho, ob, g1, g2, g3⟩ := h3.2 0 _ u rfl hu
      have he : ob = o := by simpa using g1.symm
      subst he
      refine ⟨ho, ob, by simp, g2, fun hl hv => ?_⟩
      obtain ⟨hM, this⟩ := g3 hl hv
      refine ⟨hM, ?_⟩
      unfold Hdr at this ⊢
      rw [hbl]; exact this
    | 1 =>
      cases hp
      exact atom_rep hq (h3.2 1 _ u rfl hu)
    | i + 2 => simp at hp
  | lent r args' hl hr h =>
    have ha := q6q R hl hargs
    refine ⟨h.1, (h.2 w blk vs (fun _ => True) ⟨R.globOk, fun _ _ => trivial⟩ (q67 _ _ _ _) ⟨ha.1, fun i p v a b => .of_rep ((ha.2 i p v a b).anyOk fun _ _ _ => ⟨trivial, q0r _ _⟩)⟩).mono fun e w' ⟨v, blk', h1, h2, h3, h4, h5⟩ => ?_⟩
    exact ⟨v, blk, h1, R.grew (q25 h4 h5), flat_rep hr h3⟩
theorem callR_new {f : FuncId} {args : List PV} {objs objs' : List Obj} {r : PV} {t : Nat} (h : CallR P f args objs r objs' t) : NewLt objs objs' := by
  cases h with
  | pure _ _ _ => exact .same rfl
  | lent _ _ _ _ _ => exact .same rfl
  | used _ _ h => exact .same h.2.1
  | madeL ver o _ _ hnew _ =>
    refine .of fun i x hx j p hp => ?_
    have := hnew x (List.mem_of_getElem? hx) p (List.mem_of_getElem? hp)
    cases p <;> first | rfl | (simp [PV.atom] at this)
  | madeT ver q o _ _ hnew _ _ =>
    refine .of fun i x hx j p hp => ?_
    have := hnew x (List.mem_of_getElem? hx) p (List.mem_of_getElem? hp)
    cases p <;> first | rfl | (simp [PV.atom] at this)
  | made r o _ hnew _ =>
    refine .of fun i x hx j p hp => ?_
    have := hnew o (by simp) x (List.mem_of_getElem? hx) p (List.mem_of_getElem? hp)
    cases p <;> first | rfl | (simp [PV.ref] at this)
theorem op_soundN {own : Bool} {o : Oper} {K : KT} {next : Act → World → Prop} {Q : Exit → Act → World → Prop} (l : Option Nat) (hD : ∀ t, TOk P t (D t)) (R : Rel base prot w0 S blk a w)
    (h : opR P D own S.ev S.objs o.op K)
    (hn : ∀ r objs' t v w' blk', K r objs' t → Rel base prot w0 ⟨S.tmps, objs'⟩ blk' a w' → RepT w' (okL base objs' blk') objs' blk' r v → NewLt S.objs objs' → next (a.put o.dst v) w') :
    o.wpIn (fen l) 0 P a w next Q := by
  have fin : (∀ c, o.op ≠ .defer c) → Out P base prot w0 S o a w K → o.wpIn (fen l) 0 P a w next Q := by
    rintro hd ⟨v, w', r, objs', t, blk', h1, h2, h3, h4, h5⟩
    exact wpIn_of_ran hd h1 (hn r objs' t v w' blk' h2 h3 h4 h5)
  unfold opR at h
  split at h <;> rename_i ho
  · exact fin (by rw [ho]; simp) (snd_move (.inl ho) R h)
  · exact fin (by rw [ho]; simp) (snd_move (.inr ho) R h)
  · exact fin (by rw [ho]; simp) (snd_pick ho R h)
  · exact fin (by rw [ho]; simp) (snd_alloc ho hD R h)
  · exact fin (by rw [ho]; simp) (snd_box ho hD R h)
  · exact fin (by rw [ho]; simp) (snd_build ho hD R h)
  · exact fin (by rw [ho]; simp) (qao ho hD R h)
  · exact fin (by rw [ho]; simp) (snd_load ho hD R h)
  · exact fin (by rw [ho]; simp) (snd_store ho hD R h)
  · exact fin (by rw [ho]; simp) (snd_nilCheck ho R h)
  · exact fin (by rw [ho]; simp) (snd_bin ho hD R h)
  · exact fin (by rw [ho]; simp) (snd_un ho R h)
  · exact fin (by rw [ho]; simp) (snd_conv ho hD R h)
  · exact fin (by rw [ho]; simp) (snd_makeFunc ho R h)
  · exact fin (by rw [ho]; simp) (snd_makeSlice ho hD R h)
  · exact fin (by rw [ho]; simp) (snd_slice ho hD R h)
  · exact fin (by rw [ho]; simp) (snd_fieldAddr ho hD R h)
  · exact fin (by rw [ho]; simp) (snd_field ho hD R h)
  · exact fin (by rw [ho]; simp) (snd_indexAddr ho hD R h)
  · exact fin (by rw [ho]; simp) (snd_index ho hD R h)
  · exact fin (by rw [ho]; simp) (snd_extract ho R h)
  · rename_i b args argTypes
    refine fin (by rw [ho]; simp) ?_
    unfold q13 at h
    split at h
    · rename_i t x e1 e2
      have e1' : argTypes = #[t] := by apply Array.ext'; simpa using e1
      have e2' : args = #[x] := by apply Array.ext'; simpa using e2
      subst e1'; subst e2'
      exact snd_len ho hD R h
    · rename_i t u s x e1 e2
      have e1' : argTypes = #[t, u] := by apply Array.ext'; simpa using e1
      have e2' : args = #[s, x] := by apply Array.ext'; simpa using e2
      subst e1'; subst e2'
      exact snd_append ho hD R h
    · exact snd_minmax (isMax := true) ho R h
    · exact snd_minmax (isMax := false) ho R h
    · exact h.elim
  · rename_i f args argTypes
    unfold callR at h
    split at h
    · rename_i g first cap e
      obtain ⟨r, objs', t, hc, hK⟩ := h
      have hf := R.ev f
      rw [e] at hf
      obtain ⟨va, vc, hv, r1, r2⟩ := hf
      have hargs : RepL (RepT w (okL base S.objs blk) S.objs blk) (first ++ args.toList.map S.ev ++ cap) (va ++ args.toList.map a.eval ++ vc) := by
        have app : ∀ {ps qs : List PV} {us ws : List Value} {Rr : PV → Value → Prop}, RepL Rr ps us → RepL Rr qs ws → RepL Rr (ps ++ qs) (us ++ ws) := by
          intro ps qs us ws Rr h1 h2
          refine ⟨by simp [h1.1, h2.1], fun i p v hp hv => ?_⟩
          rw [List.getElem?_append] at hp hv
          by_cases hi : i < ps.length
          · rw [if_pos hi] at hp; rw [if_pos (by rw [← h1.1]; exact hi)] at hv; exact h1.2 _ _ _ hp hv
          · rw [if_neg hi] at hp; rw [if_neg (by rw [← h1.1]; exact hi)] at hv; rw [← h1.1] at hv; exact h2.2 _ _ _ hp hv
        exact app (app (r1.mono fun _ _ h => .of_repS h) (q8q _ fun x _ => R.ev x)) (r2.mono fun _ _ h => .of_repS h)
      obtain ⟨⟨fn, hfn, hname, hbody⟩, hcalls⟩ := call_sound R hc hargs
      refine ⟨fun _ _ => trivial, ?_⟩
      rw [Oper.semAt_eq _ _ _ (by rw [ho]; simp)]
      have hrun : (execOp a.eval o).run P w = .ok (.enter g ⟨va ++ args.toList.map a.eval ++ vc⟩) w := by
        have e1 : (Array.mk va) ++ args.map a.eval ++ (Array.mk vc) = Array.mk (va ++ args.toList.map a.eval ++ vc) := by apply Array.ext'; simp
        simp only [execOp, ho, resolve, hv, Deferred.ofValue, Sem.run_bind, Sem.run_pure, Result.andThen_ok, invoke, callFunc, run_program, hfn, hname, hbody, Bool.false_eq_true, if_false]
        rw [e1]
      rw [hrun]
      refine ⟨(fun h => by cases h), ?_⟩
      refine CallsIn.mono (callsToIn hcalls l) fun e w' ⟨v, blk', h1, h2, h3⟩ => ?_
      subst h1
      exact hn r objs' t v w' blk' hK h2 h3 (callR_new hc)
    · exact h.elim
  · exact fin (by rw [ho]; simp) (snd_makeMap ho R h)
  · exact fin (by rw [ho]; simp) (snd_lookup ho hD R h)
  · exact fin (by rw [ho]; simp) (q6p (.inl ho) hD R h)
  · exact fin (by rw [ho]; simp) (q6p (.inr ho) hD R h)
  · exact h.elim
theorem q8r {own : Bool} {o : Oper} {K : KT} {next : Act → World → Prop} {Q : Exit → Act → World → Prop} (l : Option Nat) (hD : ∀ t, TOk P t (D t)) (R : Rel base prot w0 S blk a w)
    (h : opR P D own S.ev S.objs o.op K)
    (hn : ∀ r objs' t v w' blk', K r objs' t → Rel base prot w0 ⟨S.tmps, objs'⟩ blk' a w' → RepT w' (okL base objs' blk') objs' blk' r v → next (a.put o.dst v) w') :
    o.wpIn (fen l) 0 P a w next Q := op_soundN l hD R h fun r objs' t v w' blk' h1 h2 h3 _ => hn r objs' t v w' blk' h1 h2 h3
end
end Lp

/-! LpL -/

namespace Lp
open Go
def co (t : Nat) : Nat := if t ≤ 2 then t else if t % 2 = 0 then 1 else 2
theorem co_rd (k : Nat) : co (4 + 2 * k) = 1 := by unfold co; rw [if_neg (by omega), if_pos (by omega)]
theorem co_wr (k : Nat) : co (5 + 2 * k) = 2 := by unfold co; rw [if_neg (by omega), if_neg (by omega)]
theorem co_zero {t : Nat} (h : t ≠ 0) : co t ≠ 0 := by unfold co; split <;> (try split) <;> omega
def Mk (mk : Nat → PV) : Prop := mk = (fun n => .osl n 1) ∨ mk = (fun n => .optr n 1 0 0) ∨ mk = (fun n => .omp n 1)
structure Fine (A : List Obj → KT → Prop) (objs : List Obj) (r : PV) (o : List Obj) (t : Nat) : Prop where
  rd : ∀ k, t = 4 + 2 * k → o = objs ∧ k < objs.length ∧ ∀ (objs2 : List Obj) (K' : KT), objs2[k]? = objs[k]? → K' r objs2 t → A objs2 K'
  wr : ∀ k, t = 5 + 2 * k → (∃ o1, k < objs.length ∧ o = objs.set k o1 ∧ ∀ (objs2 : List Obj) (K' : KT), objs2[k]? = objs[k]? → K' r (objs2.set k o1) t → A objs2 K') ∨
    (k = objs.length ∧ ∃ o1 mk, Mk mk ∧ r = mk k ∧ o = objs ++ [o1] ∧ o1.live = true ∧ o1.ver = 1 ∧ ∀ (objs2 : List Obj) (K' : KT), K' (mk objs2.length) (objs2 ++ [o1]) (5 + 2 * objs2.length) → A objs2 K')
def Fac (A : List Obj → KT → Prop) (objs : List Obj) (K : KT) : Prop :=
  ∃ r o t, K r o t ∧ (co t ≠ 2 → o = objs) ∧ (∀ K' : KT, K' r o t → A objs K') ∧ (t = 0 → ∀ (objs2 : List Obj) (K' : KT), K' r objs2 0 → A objs2 K') ∧ Fine A objs r o t
theorem Fine.few {A : List Obj → KT → Prop} {objs : List Obj} {r : PV} {o : List Obj} {t : Nat} (h : t ≤ 2) : Fine A objs r o t := ⟨fun k e => by omega, fun k e => by omega⟩
variable {P : Program} {D : TypeId → TInfo} {ev : Operand → PV} {objs : List Obj} {K : KT}
theorem Fac.zero {A : List Obj → KT → Prop} {r : PV} (hK : K r objs 0) (h : ∀ (o : List Obj) (K' : KT), K' r o 0 → A o K') : Fac A objs K := ⟨r, objs, 0, hK, fun _ => rfl, h _, fun _ o => h o, .few (by decide)⟩
theorem Fac.rd {A : List Obj → KT → Prop} {r : PV} (k : Nat) {o : Obj} (hk : objs[k]? = some o) (hK : K r objs (4 + 2 * k)) (h : ∀ (objs2 : List Obj) (K' : KT), objs2[k]? = objs[k]? → K' r objs2 (4 + 2 * k) → A objs2 K') : Fac A objs K :=
  ⟨r, objs, _, hK, fun _ => rfl, fun K' hk => h objs K' rfl hk, fun e => by omega, fun k' e => by
    have : k' = k := by omega
    subst this; exact ⟨rfl, (List.getElem?_eq_some_iff.1 hk).1, fun objs2 K' he hk => h objs2 K' he hk⟩, fun k' e => by omega⟩
theorem Fac.wr {A : List Obj → KT → Prop} {r : PV} (k : Nat) {o : Obj} (o1 : Obj) (hk : objs[k]? = some o) (hK : K r (objs.set k o1) (5 + 2 * k))
    (h : ∀ (objs2 : List Obj) (K' : KT), objs2[k]? = objs[k]? → K' r (objs2.set k o1) (5 + 2 * k) → A objs2 K') : Fac A objs K :=
  ⟨r, _, _, hK, fun e => absurd (co_wr k) e, fun K' hk => h objs K' rfl hk, fun e => by omega, fun k' e => by omega, fun k' e => by
    have : k' = k := by omega
    subst this; exact .inl ⟨o1, (List.getElem?_eq_some_iff.1 hk).1, rfl, fun objs2 K' he hk => h objs2 K' he hk⟩⟩
theorem Fac.new {A : List Obj → KT → Prop} (mk : Nat → PV) (hm : Mk mk) (o1 : Obj) (hl : o1.live = true) (hv : o1.ver = 1) (hK : K (mk objs.length) (objs ++ [o1]) (5 + 2 * objs.length))
    (h : ∀ (objs2 : List Obj) (K' : KT), K' (mk objs2.length) (objs2 ++ [o1]) (5 + 2 * objs2.length) → A objs2 K') : Fac A objs K :=
  ⟨_, _, _, hK, fun e => absurd (co_wr _) e, fun K' hk => h objs K' hk, fun e => by omega, fun k' e => by omega, fun k' e => by
    have : k' = objs.length := by omega
    subst this; exact .inr ⟨rfl, o1, mk, hm, rfl, rfl, hl, hv, h⟩⟩
theorem Fac.two {A : List Obj → KT → Prop} {r : PV} {o : List Obj} (hK : K r o 2) (h : ∀ K' : KT, K' r o 2 → A objs K') : Fac A objs K := ⟨r, o, 2, hK, fun e => absurd (by decide) e, h, fun e => absurd e (by decide), .few (by decide)⟩
def FacP (A : (PV → Prop) → Prop) (K : PV → Prop) : Prop := ∃ r, K r ∧ ∀ K' : PV → Prop, K' r → A K'
theorem FacP.fac {A : (PV → Prop) → Prop} (h : FacP A (fun r => K r objs 0)) : Fac (fun o K => A (fun r => K r o 0)) objs K := by
  obtain ⟨r, h1, h2⟩ := h
  exact .zero h1 fun o K' hk => h2 _ hk
theorem facP_binI {op : BinOp} {k k' : IntKind} {x y : Int} {K : PV → Prop} (h : binI op k k' x y K) : FacP (binI op k k' x y) K := by
  cases op <;> simp only [binI] at h <;> (first
    | (obtain ⟨h1, h2, h3, h4⟩ := h; exact ⟨_, h4, fun _ hk => ⟨h1, h2, h3, hk⟩⟩)
    | (obtain ⟨h1, h2, h3⟩ := h; exact ⟨_, h3, fun _ hk => ⟨h1, h2, hk⟩⟩)
    | (obtain ⟨h1, h2⟩ := h; exact ⟨_, h2, fun _ hk => ⟨h1, hk⟩⟩))
theorem facP_binS {op : BinOp} {x y : List UInt8} {K : PV → Prop} (h : binS op x y K) : FacP (binS op x y) K := by
  cases op <;> simp only [binS] at h <;> (first
    | exact h.elim
    | (obtain ⟨h1, h2⟩ := h; exact ⟨_, h2, fun _ hk => ⟨h1, hk⟩⟩)
    | exact ⟨_, h, fun _ hk => hk⟩)
theorem facP_binR {ti : TInfo} {t : TypeId} {op : BinOp} {x y : PV} {K : PV → Prop} (h : binR P ti t op x y K) : FacP (binR P ti t op x y) K := by
  unfold binR at h
  split at h
  · exact facP_binI h
  · exact facP_binS h
  · obtain ⟨h1, h⟩ := h
    cases op <;> simp only [] at h <;> first | exact h.elim | exact ⟨_, h, fun _ hk => ⟨h1, hk⟩⟩
  · obtain ⟨h1, r, h2, h⟩ := h
    cases op <;> simp only [] at h <;> first | exact h.elim | exact ⟨_, h, fun _ hk => ⟨h1, r, h2, hk⟩⟩
  · obtain ⟨h1, h⟩ := h
    cases op <;> simp only [] at h <;> first | exact h.elim | exact ⟨_, h, fun _ hk => ⟨h1, hk⟩⟩
  · exact h.elim
theorem facP_unR {op : UnOp} {x : PV} {K : PV → Prop} (h : unR op x K) : FacP (unR op x) K := by
  unfold unR at h
  split at h
  · exact ⟨_, h, fun _ hk => hk⟩
  · exact ⟨_, h.2, fun _ hk => ⟨h.1, hk⟩⟩
  · exact h.elim
theorem facP_convR {s d : TInfo} {x : PV} {K : PV → Prop} (h : convR s d x K) : FacP (convR s d x) K := by
  unfold convR at h
  split at h
  · rename_i e; exact ⟨_, h.2, fun _ hk => by unfold convR; rw [e]; exact ⟨h.1, hk⟩⟩
  · rename_i e; exact ⟨_, h.2, fun _ hk => by unfold convR; rw [e]; exact ⟨h.1, hk⟩⟩
  · rename_i e; exact ⟨_, h.2, fun _ hk => by unfold convR; rw [e]; exact ⟨h.1, hk⟩⟩
  · exact h.elim
theorem q9k {m : Bool} {xs : List PV} {K : PV → Prop} (h : q08 m xs K) : FacP (q08 m xs) K := by
  unfold q08 at h
  split at h
  · exact ⟨_, h.2, fun _ hk => ⟨h.1, hk⟩⟩
  · exact h.elim
theorem fac_pick {c x y : PV} (h : pickR c x y objs K) : Fac (pickR c x y) objs K := by
  unfold pickR at h
  split at h
  · exact .zero h fun _ _ hk => hk
  · exact h.elim
theorem fac_load {ti : TInfo} {p : PV} (h : loadR ti p objs K) : Fac (loadR ti p) objs K := by
  unfold loadR at h
  split at h
  · obtain ⟨h1, h2, h3, h4⟩ := h
    exact .zero h4 fun _ _ hk => ⟨h1, h2, h3, hk⟩
  · obtain ⟨o, e, h1, h2, h3, h4, h5, h6, h7, h8, h9⟩ := h
    exact .rd _ h1 h9 fun _ _ he hk => ⟨o, e, he.trans h1, h2, h3, h4, h5, h6, h7, h8, hk⟩
  · exact h.elim
theorem fac_store {ti : TInfo} {p v : PV} (h : q0a ti p v objs K) : Fac (q0a ti p v) objs K := by
  unfold q0a at h
  split at h
  · obtain ⟨o, e, h1, h2, h3, h4, h5, h6, h7, h8, h9, h10⟩ := h
    exact .wr _ _ h1 h10 fun _ _ he hk => ⟨o, e, he.trans h1, h2, h3, h4, h5, h6, h7, h8, h9, hk⟩
  · exact h.elim
theorem q68 {t : TypeId} {f : Nat} {X : Nat → TInfo → Prop} (h : q01 D t f X) : ∃ off ti, X off ti ∧ ∀ X' : Nat → TInfo → Prop, X' off ti → q01 D t f X' := by
  unfold q01 at h
  split at h
  · rename_i fs hk
    obtain ⟨x, h1, h2, h3, h4⟩ := h
    exact ⟨_, _, h4, fun X' hx => by unfold q01; rw [hk]; exact ⟨x, h1, h2, h3, hx⟩⟩
  · exact h.elim
theorem fac_fieldAddr {t : TypeId} {p : PV} {f : Nat} (h : q0i D t p f objs K) : Fac (q0i D t p f) objs K := by
  unfold q0i at h
  split at h
  · obtain ⟨off, ti, ⟨h1, h2, h3, h4⟩, g⟩ := q68 h
    exact .zero h4 fun _ _ hk => by unfold q0i; exact g _ ⟨h1, h2, h3, hk⟩
  · obtain ⟨o, h1, h2, h3, h⟩ := h
    obtain ⟨off, ti, h4, g⟩ := q68 h
    exact .rd _ h1 h4 fun _ _ he hk => ⟨o, he.trans h1, h2, h3, g _ hk⟩
  · exact h.elim
theorem fac_field {t : TypeId} {p : PV} {f : Nat} (h : q4n D t p f objs K) : Fac (q4n D t p f) objs K := by
  unfold q4n at h
  split at h
  · obtain ⟨off, ti, ⟨h1, h2⟩, g⟩ := q68 h
    exact .zero h2 fun _ _ hk => by unfold q4n; exact g _ ⟨h1, hk⟩
  · exact h.elim
theorem fac_indexAddr {t : TypeId} {x i : PV} (h : q0j D t x i objs K) : Fac (q0j D t x i) objs K := by
  unfold q0j at h
  split at h <;> (try rename_i hk)
  · rename_i e _ _ _ _ _ hk
    obtain ⟨h1, h2, y, h3, h4, h5⟩ := h
    exact .zero h5 fun _ _ hk' => by unfold q0j; rw [hk]; exact ⟨h1, h2, y, h3, h4, hk'⟩
  · rename_i e _ _ _ _ hk
    obtain ⟨h1, h2, o, h3, h4, h5, h6, h7, h8⟩ := h
    exact .rd _ h3 h8 fun _ _ he hk' => by unfold q0j; rw [hk]; exact ⟨h1, h2, o, he.trans h3, h4, h5, h6, h7, hk'⟩
  · rename_i m e _ _ _ hk
    obtain ⟨h1, h2, h3, h4, h5, h6, h7⟩ := h
    exact .zero h7 fun _ _ hk' => by unfold q0j; rw [hk]; exact ⟨h1, h2, h3, h4, h5, h6, hk'⟩
  · rename_i m e _ _ _ _ _ _ hk
    obtain ⟨h1, h2, h3, o, h4, h5, h6, h7⟩ := h
    exact .rd _ h4 h7 fun _ _ he hk' => by unfold q0j; rw [hk]; exact ⟨h1, h2, h3, o, he.trans h4, h5, h6, hk'⟩
  · exact h.elim
theorem fac_index {t : TypeId} {x i : PV} (h : q2z D t x i objs K) : Fac (q2z D t x i) objs K := by
  unfold q2z at h
  split at h <;> (try rename_i hk)
  · obtain ⟨h1, b, h2, h3⟩ := h
    exact .zero h3 fun _ _ hk' => by unfold q2z; rw [hk]; exact ⟨h1, b, h2, hk'⟩
  · obtain ⟨h1, h2, h3, h4, h5, h6⟩ := h
    exact .zero h6 fun _ _ hk' => by unfold q2z; rw [hk]; exact ⟨h1, h2, h3, h4, h5, hk'⟩
  · exact h.elim
theorem q29 {x : Option PV} {d : Int} {X : Int → Prop} (h : q03 x d X) : ∃ n, X n ∧ ∀ X' : Int → Prop, X' n → q03 x d X' := by
  unfold q03 at h
  split at h
  · exact ⟨_, h, fun _ hx => hx⟩
  · exact ⟨_, h, fun _ hx => hx⟩
  · exact h.elim
theorem fac_slice {t : TypeId} {x : PV} {lo hi : Option PV} (h : q1x D t x lo hi objs K) : Fac (q1x D t x lo hi) objs K := by
  unfold q1x at h
  split at h <;> (try rename_i hk)
  · obtain ⟨l, h, g1⟩ := q29 h
    obtain ⟨m, ⟨h1, h2, h3, h4⟩, g2⟩ := q29 h
    exact .zero h4 fun _ _ hk' => by unfold q1x; rw [hk]; exact g1 _ (g2 _ ⟨h1, h2, h3, hk'⟩)
  · obtain ⟨e1, e2, h⟩ := h
    obtain ⟨l, h, g1⟩ := q29 h
    obtain ⟨m, ⟨h1, h2, h3, h4⟩, g2⟩ := q29 h
    exact .zero h4 fun _ _ hk' => by unfold q1x; rw [hk]; exact ⟨e1, e2, g1 _ (g2 _ ⟨h1, h2, h3, hk'⟩)⟩
  · obtain ⟨e1, o, e2, e3, e4, e5, e6, h⟩ := h
    obtain ⟨m, ⟨h1, h2, h3⟩, g2⟩ := q29 h
    exact .wr _ _ e2 h3 fun _ _ he hk' => by unfold q1x; rw [hk]; exact ⟨e1, o, he.trans e2, e3, e4, e5, e6, g2 _ ⟨h1, h2, hk'⟩⟩
  · obtain ⟨e1, e2, e3, e4, e5, e6, h⟩ := h
    obtain ⟨l, h, g1⟩ := q29 h
    obtain ⟨m, ⟨h1, h2, h3, h4⟩, g2⟩ := q29 h
    exact .zero h4 fun _ _ hk' => by unfold q1x; rw [hk]; exact ⟨e1, e2, e3, e4, e5, e6, g1 _ (g2 _ ⟨h1, h2, h3, hk'⟩)⟩
  · exact h.elim
theorem fac_len {t : TypeId} {x : PV} (h : lenR D t x objs K) : Fac (lenR D t x) objs K := by
  unfold lenR at h
  split at h <;> (try rename_i hk)
  · exact .zero h fun _ _ hk' => by unfold lenR; rw [hk]; exact hk'
  · exact .zero h fun _ _ hk' => by unfold lenR; rw [hk]; exact hk'
  · obtain ⟨o, e2, e3, e4, h⟩ := h
    exact .rd _ e2 h fun _ _ he hk' => by unfold lenR; rw [hk]; exact ⟨o, he.trans e2, e3, e4, hk'⟩
  · exact h.elim
theorem q9l {place : Nat → Option (Nat × Nat)} : ∀ {parts : List (Nat × PV)} {cs : List PV} {X : List PV → Prop}, fillR place cs parts X → ∃ cs', X cs' ∧ ∀ X' : List PV → Prop, X' cs' → fillR place cs parts X'
  | [], cs, _, h => ⟨cs, h, fun _ hx => hx⟩
  | (_, _) :: _, _, _, ⟨x, h1, h2, h3, h⟩ =>
    let ⟨cs', g1, g2⟩ := q9l h
    ⟨cs', g1, fun _ hx => ⟨x, h1, h2, h3, g2 _ hx⟩⟩
theorem fac_build {t : TypeId} {ps : List (Nat × PV)} (h : q1p D t ps objs K) : Fac (q1p D t ps) objs K := by
  obtain ⟨a1, a2, a3, h⟩ := h
  unfold q9b at h
  split at h <;> (try rename_i hk)
  · obtain ⟨h1, h⟩ := h
    obtain ⟨cs, h2, g⟩ := q9l h
    exact .zero h2 fun _ _ hk' => ⟨a1, a2, a3, by unfold q9b; rw [hk]; exact ⟨h1, g _ hk'⟩⟩
  · obtain ⟨h1, h⟩ := h
    obtain ⟨cs, h2, g⟩ := q9l h
    exact .zero h2 fun _ _ hk' => ⟨a1, a2, a3, by unfold q9b; rw [hk]; exact ⟨h1, g _ hk'⟩⟩
  · exact h.elim
theorem qap {own : Bool} {t : TypeId} {n : Nat} {ps : List (Nat × PV)} (h : q00 D own t n ps objs K) : Fac (q00 D own t n ps) objs K := by
  unfold q00 at h
  split at h <;> (try rename_i hk)
  · obtain ⟨h1, h2, h3, h4, h5, h6, h7⟩ := h
    cases own with
    | true =>
      simp only [if_true] at h7
      exact .new (fun n => .osl n 1) (.inl rfl) _ rfl rfl h7 fun _ _ hk' => by unfold q00; rw [hk]; exact ⟨h1, h2, h3, h4, h5, h6, hk'⟩
    | false =>
      simp only [Bool.false_eq_true, if_false] at h7
      exact .zero h7 fun _ _ hk' => by unfold q00; rw [hk]; exact ⟨h1, h2, h3, h4, h5, h6, hk'⟩
  · exact h.elim
theorem fac_makeSlice {t : TypeId} {l c : PV} (h : q02 D t l c objs K) : Fac (q02 D t l c) objs K := by
  unfold q02 at h
  split at h <;> (try rename_i hk)
  · obtain ⟨h1, h2, h3, h4, h5, h6, h7, h8, h9⟩ := h
    exact .new (fun n => .osl n 1) (.inl rfl) _ rfl rfl h9 fun _ _ hk' => by unfold q02; rw [hk]; exact ⟨h1, h2, h3, h4, h5, h6, h7, h8, hk'⟩
  · exact h.elim
theorem srcR_fac {t : TypeId} {x : PV} {X : List PV → Bool → Prop} (h : srcR D t x objs X) : ∃ ys q, X ys q ∧ (∀ X' : List PV → Bool → Prop, X' ys q → srcR D t x objs X') ∧
    (q = false → ∀ (objs2 : List Obj) (X' : List PV → Bool → Prop), X' ys q → srcR D t x objs2 X') := by
  unfold srcR at h
  split at h <;> (try rename_i hk)
  · exact ⟨_, _, h, fun _ hx => by unfold srcR; rw [hk]; exact hx, fun _ _ _ hx => by unfold srcR; rw [hk]; exact hx⟩
  · obtain ⟨o, h1, h2, h3, h⟩ := h
    exact ⟨_, _, h, fun _ hx => by unfold srcR; rw [hk]; exact ⟨o, h1, h2, h3, hx⟩, fun e => by cases e⟩
  · exact ⟨_, _, h, fun _ hx => by unfold srcR; rw [hk]; exact hx, fun _ _ _ hx => by unfold srcR; rw [hk]; exact hx⟩
  · exact h.elim
theorem fac_append {t u : TypeId} {s x : PV} (h : q07 D t u s x objs K) : Fac (q07 D t u s x) objs K := by
  unfold q07 at h
  split at h <;> (try rename_i hk)
  · obtain ⟨h1, h2, h3, h4, h⟩ := h
    obtain ⟨ys, q, ⟨hy, h⟩, g, g2⟩ := srcR_fac h
    split at h
    · rename_i k ver
      obtain ⟨o, e1, e2, e3, e4, e5, e6, e7, e8, e9⟩ := h
      cases q with
      | true => exact .two e9 fun _ hk' => by unfold q07; rw [hk]; exact ⟨h1, h2, h3, h4, g _ ⟨hy, o, e1, e2, e3, e4, e5, e6, e7, e8, hk'⟩⟩
      | false => exact .wr _ _ e1 e9 fun _ _ he hk' => by unfold q07; rw [hk]; exact ⟨h1, h2, h3, h4, g2 rfl _ _ ⟨hy, o, he.trans e1, e2, e3, e4, e5, e6, e7, e8, hk'⟩⟩
    · obtain ⟨e1, e2, e3, e4, e5, e6⟩ := h
      cases q with
      | true => exact .two e6 fun _ hk' => by unfold q07; rw [hk]; exact ⟨h1, h2, h3, h4, g _ ⟨hy, e1, e2, e3, e4, e5, hk'⟩⟩
      | false => exact .new (fun n => .osl n 1) (.inl rfl) _ rfl rfl e6 fun _ _ hk' => by unfold q07; rw [hk]; exact ⟨h1, h2, h3, h4, g2 rfl _ _ ⟨hy, e1, e2, e3, e4, e5, hk'⟩⟩
    · obtain ⟨e1, e2, e3⟩ := h
      cases q with
      | true => exact .two e3 fun _ hk' => by unfold q07; rw [hk]; exact ⟨h1, h2, h3, h4, g _ ⟨hy, e1, e2, hk'⟩⟩
      | false => exact .new (fun n => .osl n 1) (.inl rfl) _ rfl rfl e3 fun _ _ hk' => by unfold q07; rw [hk]; exact ⟨h1, h2, h3, h4, g2 rfl _ _ ⟨hy, e1, e2, hk'⟩⟩
    · exact h.elim
  · exact h.elim
theorem fac_nilCheck {x : PV} (h : q0q x objs K) : Fac (q0q x) objs K := by
  unfold q0q at h
  split at h
  · exact .zero h fun _ _ hk => hk
  · obtain ⟨o, h1, h2, h3, h⟩ := h
    exact .rd _ h1 h fun _ _ he hk => ⟨o, he.trans h1, h2, h3, hk⟩
  · exact h.elim
theorem fac_conv {s t : TypeId} {x : PV} (h : convO D s t x objs K) : Fac (convO D s t x) objs K := by
  by_cases hx : ∃ k ver, x = .osl k ver
  · obtain ⟨k, ver, rfl⟩ := hx
    obtain ⟨ob, bs, h1, h2, h3, h4, h5, h6, h7, h8, h9⟩ := h
    exact .rd k h1 h9 fun objs2 K' he hk => ⟨ob, bs, by rw [he]; exact h1, h2, h3, h4, h5, h6, h7, h8, hk⟩
  · have e : ∀ (objs : List Obj) (K : KT), convO D s t x objs K = convR (D s) (D t) x fun r => K r objs 0 := fun objs K => qb3 fun k ver e => hx ⟨k, ver, e⟩
    rw [e] at h
    have e2 : convO D s t x = fun (o : List Obj) (K : KT) => convR (D s) (D t) x fun r => K r o 0 := by funext o K; exact e o K
    rw [e2]
    exact (facP_convR h).fac
theorem q9m {f : FuncId} {args : List PV} {r : PV} {o : List Obj} (h : CallR P f args objs r o 0) (objs2 : List Obj) : o = objs ∧ CallR P f args objs2 r objs2 0 := by
  cases h with
  | pure _ ha h => exact ⟨rfl, .pure _ ha h⟩
theorem callR_touch {f : FuncId} {args : List PV} {r : PV} {o : List Obj} {t : Nat} (h : CallR P f args objs r o t) (ht : co t ≠ 2) : o = objs := by
  cases h with
  | pure _ ha h => rfl
  | made _ _ _ _ _ => exact absurd (by decide) ht
  | used _ _ _ => exact absurd (by decide) ht
  | madeL _ _ _ _ _ _ => exact absurd (by decide) ht
  | madeT _ _ _ _ _ _ _ _ => exact absurd (by decide) ht
  | lent _ _ _ _ _ => rfl
theorem fac_call {f : PV} {args : List PV} (h : callR P f args objs K) : Fac (callR P f args) objs K := by
  unfold callR at h
  split at h
  · obtain ⟨r, o, t, hc, hK⟩ := h
    refine ⟨r, o, t, hK, callR_touch hc, fun _ hk => ⟨r, o, t, hc, hk⟩, ?_, .few (by cases hc <;> decide)⟩
    intro ht objs2 K' hk
    subst ht
    exact ⟨r, objs2, 0, (q9m hc objs2).2, hk⟩
  · exact h.elim
theorem fac_makeMap {t : TypeId} (h : q2f D t objs K) : Fac (q2f D t) objs K := by
  unfold q2f at h
  split at h
  · rename_i k e hk
    exact .new (fun n => .omp n 1) (.inr (.inr rfl)) _ rfl rfl h fun _ _ hk' => by unfold q2f; rw [hk]; exact hk'
  · exact h.elim
theorem fac_lookup {t : TypeId} {x ix : PV} {ok : Bool} (h : q24 D t x ix ok objs K) : Fac (q24 D t x ix ok) objs K := by
  unfold q24 at h
  split at h
  · rename_i kt et k ver hk
    obtain ⟨h1, h2, o, h3, h4, h5, h6, m, h7, h8⟩ := h
    exact .rd _ h3 h8 fun _ _ he hk' => by unfold q24; rw [hk]; exact ⟨h1, h2, o, he.trans h3, h4, h5, h6, m, h7, hk'⟩
  · exact h.elim
theorem q6r {t : TypeId} {x y z : PV} (h : q1h D t x y z objs K) : Fac (q1h D t x y z) objs K := by
  unfold q1h at h
  split at h
  · rename_i kt et k ver hk
    obtain ⟨h1, h2, h2', o, h3, h4, h5, h6, m, h7, h8⟩ := h
    exact .wr _ _ h3 h8 fun _ _ he hk' => by unfold q1h; rw [hk]; exact ⟨h1, h2, h2', o, he.trans h3, h4, h5, h6, m, h7, hk'⟩
  · exact h.elim
theorem fac_opR {own : Bool} {op : Op} (h : opR P D own ev objs op K) : Fac (fun o K => opR P D own ev o op K) objs K := by
  unfold opR at h
  split at h
  · exact .zero h fun _ _ hk => hk
  · exact .zero h fun _ _ hk => hk
  · exact fac_pick h
  · obtain ⟨h1, h2, h3, h4⟩ := h
    exact .new (fun n => .optr n 1 0 0) (.inr (.inl rfl)) _ rfl rfl h4 fun _ _ hk => ⟨h1, h2, h3, hk⟩
  · obtain ⟨h1, h2, h3, h4⟩ := h
    exact .new (fun n => .optr n 1 0 0) (.inr (.inl rfl)) _ rfl rfl h4 fun _ _ hk => ⟨h1, h2, h3, hk⟩
  · exact fac_build h
  · exact qap h
  · exact fac_load h
  · exact fac_store h
  · exact fac_nilCheck h
  · exact (facP_binR h).fac
  · exact (facP_unR h).fac
  · exact fac_conv h
  · obtain ⟨h1, h2, h3⟩ := h
    exact .zero h3 fun _ _ hk => ⟨h1, h2, hk⟩
  · exact fac_makeSlice h
  · exact fac_slice h
  · exact fac_fieldAddr h
  · exact fac_field h
  · exact fac_indexAddr h
  · exact fac_index h
  · rename_i x i
    unfold q17 at h
    split at h
    · rename_i cs e
      obtain ⟨p, h1, h2⟩ := h
      exact .zero h2 fun _ _ hk => by show q17 (ev x) i _ _; unfold q17; rw [e]; exact ⟨p, h1, hk⟩
    · exact h.elim
  · rename_i b args ts
    unfold q13 at h
    split at h
    · rename_i t0 x0 e1 e2
      have hf := fac_len h
      have e' : (fun (o : List Obj) (K : KT) => q13 D .len ts.toList args.toList ev o K) = lenR D t0 (ev x0) := by
        funext o K; unfold q13; rw [e1, e2]
      show Fac (fun (o : List Obj) (K : KT) => q13 D .len ts.toList args.toList ev o K) objs _
      rw [e']; exact hf
    · rename_i t0 u0 s0 x0 e1 e2
      have hf := fac_append h
      have e' : (fun (o : List Obj) (K : KT) => q13 D .append ts.toList args.toList ev o K) = q07 D t0 u0 (ev s0) (ev x0) := by
        funext o K; unfold q13; rw [e1, e2]
      show Fac (fun (o : List Obj) (K : KT) => q13 D .append ts.toList args.toList ev o K) objs _
      rw [e']; exact hf
    · obtain ⟨r, g1, g2⟩ := q9k h
      exact .zero g1 fun o K' hk => g2 (fun r => K' r o 0) hk
    · obtain ⟨r, g1, g2⟩ := q9k h
      exact .zero g1 fun o K' hk => g2 (fun r => K' r o 0) hk
    · exact h.elim
  · exact fac_call h
  · exact fac_makeMap h
  · exact fac_lookup h
  · exact q6r h
  · exact q6r h
  · exact h.elim
theorem q6s {own : Bool} {op : Op} {ev' : Operand → PV} (he : ∀ x ∈ op.operands, ev x = ev' x) (h : opR P D own ev objs op K) : opR P D own ev' objs op K := by
  have hmap : ∀ (xs : Array Operand), (∀ x ∈ xs, ev x = ev' x) → xs.toList.map ev = xs.toList.map ev' :=
    fun xs hx => List.map_congr_left fun x hm => hx x (by simpa using hm)
  have hmapP : ∀ (ps : Array (Nat × Operand)), (∀ x ∈ ps.toList, ev x.2 = ev' x.2) → ps.toList.map (fun x => (x.1, ev x.2)) = ps.toList.map (fun x => (x.1, ev' x.2)) :=
    fun ps hx => List.map_congr_left fun x hm => by rw [hx x hm]
  unfold opR at h ⊢
  split at h <;> (try simp only [Op.operands, Call.operands] at he)
  case h_1 x => rw [← he x (by simp)]; exact h
  case h_2 x => rw [← he x (by simp)]; exact h
  case h_3 c x y => rw [← he c (by simp), ← he x (by simp), ← he y (by simp)]; exact h
  case h_4 => exact h
  case h_5 t x => rw [← he x (by simp)]; exact h
  case h_6 t ps => rw [← hmapP ps (fun x hx => he x.2 (by simp; exact ⟨x.1, by simpa using hx⟩))]; exact h
  case h_7 t n ps => rw [← hmapP ps (fun x hx => he x.2 (by simp; exact ⟨x.1, by simpa using hx⟩))]; exact h
  case h_8 t x => rw [← he x (by simp)]; exact h
  case h_9 t x y => rw [← he x (by simp), ← he y (by simp)]; exact h
  case h_10 x => rw [← he x (by simp)]; exact h
  case h_11 b t x y u => rw [← he x (by simp), ← he y (by simp)]; exact h
  case h_12 u t x => rw [← he x (by simp)]; exact h
  case h_13 s t x => rw [← he x (by simp)]; exact h
  case h_14 f first cap => rw [← hmap first (fun x hx => he x (by simp [hx])), ← hmap cap (fun x hx => he x (by simp [hx]))]; exact h
  case h_15 t l c => rw [← he l (by simp), ← he c (by simp)]; exact h
  case h_16 t x lo hi =>
    rw [← he x (by simp)]
    have e1 : lo.map ev = lo.map ev' := by cases lo <;> simp; exact he _ (by simp)
    have e2 : hi.map ev = hi.map ev' := by cases hi <;> simp; exact he _ (by simp)
    rw [← e1, ← e2]; exact h
  case h_17 t x f => rw [← he x (by simp)]; exact h
  case h_18 t x f => rw [← he x (by simp)]; exact h
  case h_19 t x i => rw [← he x (by simp), ← he i (by simp)]; exact h
  case h_20 t x i => rw [← he x (by simp), ← he i (by simp)]; exact h
  case h_21 x i => rw [← he x (by simp)]; exact h
  case h_22 b args ts =>
    have ha : ∀ x ∈ args, ev x = ev' x := fun x hx => he x (by simpa using hx)
    unfold q13 at h ⊢
    split at h
    · rename_i t x e1 e2
      rw [← ha x (by have : x ∈ args.toList := by rw [e2]; simp
                     simpa using this)]
      exact h
    · rename_i t u s x e1 e2
      rw [← ha s (by have : s ∈ args.toList := by rw [e2]; simp
                     simpa using this), ← ha x (by have : x ∈ args.toList := by rw [e2]; simp
                                                   simpa using this)]
      exact h
    · rw [← hmap args ha]; exact h
    · rw [← hmap args ha]; exact h
    · exact h.elim
  case h_23 f args ts =>
    rw [← he f (by simp), ← hmap args (fun x hx => he x (by simp [hx]))]; exact h
  case h_24 => exact h
  case h_25 t x ix ok => rw [← he x (by simp), ← he ix (by simp)]; exact h
  case h_26 t x k v => rw [← he x (by simp), ← he k (by simp), ← he v (by simp)]; exact h
  case h_27 t x k v => rw [← he x (by simp), ← he k (by simp), ← he v (by simp)]; exact h
  case h_28 => exact h.elim
end Lp

/-! LpM -/

namespace Lp
open Go
def RelV (base prot : Nat → Prop) (V : Wz → Prop) (S : St) (blk : Nat → Option Nat) (a : Act) (w : World) : Prop := ∃ w0, V w0 ∧ Rel base prot w0 S blk a w
abbrev Env := (Nat → Prop) → (Nat → Prop) → (Wz → Prop) → Prop
def PW (P : Program) (l : Option Nat) (E : Env) (c : Code) (Q : Exit → St → Prop) (S : St) : Prop :=
  ∀ (base prot : Nat → Prop) (V : Wz → Prop), E base prot V → ∀ (blk : Nat → Option Nat) (a : Act) (w : World), RelV base prot V S blk a w →
    c.wpIn (fen l) 0 P (fun e a' w' => ∃ S' blk', Q e S' ∧ RelV base prot V S' blk' a' w') a w
def Weak (m : Nat) (S S' : St) : Prop := ∀ (base prot : Nat → Prop) (w0 : Wz) (blk : Nat → Option Nat) (a : Act) (w : World), w0.nx ≤ m → Rel base prot w0 S blk a w → ∃ blk', Rel base prot w0 S' blk' a w
def thenS (next : St → Prop) (Q : Exit → St → Prop) : Exit → St → Prop
  | .normal, S => next S
  | e, S => Q e S
def q5y (id : Nat) (Q : Exit → St → Prop) : Exit → St → Prop
  | .exit id', S => if id' = id then Q .normal S else Q (.exit id') S
  | e, S => Q e S
variable {P : Program} {D : TypeId → TInfo} {l : Option Nat} {E : Env} {Q : Exit → St → Prop} {S : St}
theorem PW.mono {c : Code} {Q' : Exit → St → Prop} (h : PW P l E c Q S) (hq : ∀ e S, Q e S → Q' e S) : PW P l E c Q' S :=
  fun base prot V hE blk a w R => wpIn_mono (h base prot V hE blk a w R) fun e _ _ ⟨S', blk', h1, h2⟩ => ⟨S', blk', hq e S' h1, h2⟩
theorem PW.weak {c : Code} {S' : St} {m : Nat} (hE : ∀ base prot V, E base prot V → ∀ w0, V w0 → w0.nx ≤ m) (hw : Weak m S S') (h : PW P l E c Q S') : PW P l E c Q S :=
  fun base prot V hE' blk a w ⟨w0, hV, R⟩ => let ⟨blk', R'⟩ := hw base prot w0 blk a w (hE base prot V hE' w0 hV) R; h base prot V hE' blk' a w ⟨w0, hV, R'⟩
theorem PW.skip (h : Q .normal S) : PW P l E .skip Q S := fun _ _ _ _ blk _ _ R => wpIn_skip ⟨S, blk, h, R⟩
theorem PW.exit {id : Nat} (h : Q (.exit id) S) : PW P l E (.exit id) Q S := fun _ _ _ _ blk _ _ R => wpIn_exit ⟨S, blk, h, R⟩
theorem PW.ret (h : Q .ret S) : PW P l E .ret Q S := fun _ _ _ _ blk _ _ R => wpIn_ret ⟨S, blk, h, R⟩
theorem PW.seq {x y : Code} (h : PW P l E x (thenS (fun S' => PW P l E y Q S') Q) S) : PW P l E (.seq x y) Q S := by
  intro base prot V hE blk a w R
  refine wpIn_seq (wpIn_mono (h base prot V hE blk a w R) ?_)
  rintro e a' w' ⟨S', blk', h1, h2⟩
  cases e with
  | normal => exact h1 base prot V hE blk' a' w' h2
  | _ => exact ⟨S', blk', h1, h2⟩
theorem PW.block {id : Nat} {c : Code} (h : PW P l E c (q5y id Q) S) : PW P l E (.block id c) Q S := by
  intro base prot V hE blk a w R
  refine wpIn_block (wpIn_mono (h base prot V hE blk a w R) ?_)
  rintro e a' w' ⟨S', blk', h1, h2⟩
  cases e with
  | exit id' =>
    simp only [Exit.inBlock, q5y] at h1 ⊢
    split
    · rename_i e; rw [if_pos e] at h1; exact ⟨S', blk', h1, h2⟩
    · rename_i e; rw [if_neg e] at h1; exact ⟨S', blk', h1, h2⟩
  | _ => exact ⟨S', blk', h1, h2⟩
def condR (v : PV) (X Y : Prop) : Prop :=
  match v with
  | .bool b => (b = true → X) ∧ (b = false → Y)
  | _ => False
theorem PW.cond {c : Operand} {x y : Code} (h : condR (S.ev c) (PW P l E x Q S) (PW P l E y Q S)) : PW P l E (.cond c x y) Q S := by
  intro base prot V hE blk a w R
  have hc := R.choose_spec.2.ev c
  unfold condR at h
  split at h
  · rename_i b e
    rw [e] at hc
    exact wpIn_cond_split hc.bool (fun hb => h.1 hb base prot V hE blk a w R) (fun hb => h.2 hb base prot V hE blk a w R)
  · exact h.elim
def q4p (ops : List Oper) (g : Option (Nat × Bool)) (S : St) (X Y : St → Prop) : Prop :=
  match g with
  | none => X S
  | some (j, want) =>
    match (ops[j]?).bind (·.dst) with
    | none => False
    | some d =>
      match S.tmps.getD d .dead with
      | .bool b => (b = want → X { S with tmps := S.tmps.set d (.bool want) }) ∧ (b = !want → Y { S with tmps := S.tmps.set d (.bool !want) })
      | .tup [] => Y S
      | _ => False
def listR (P : Program) (D : TypeId → TInfo) (own : Nat → Bool) (ops : List Oper) : List Oper → Nat → St → List Nat → (St → List Nat → Prop) → Prop
  | [], _, S, ts, K => K S ts
  | o :: rest, i, S, ts, K =>
    q4p ops o.guard S
      (fun S => opR P D (own i) S.ev S.objs o.op fun r objs' t => listR P D own ops rest (i + 1) (St.put ⟨S.tmps, objs'⟩ o.dst r) (ts ++ [t]) K)
      (fun S => listR P D own ops rest (i + 1) (S.put o.dst (.tup [])) (ts ++ [0]) K)
theorem q6t (w : World) (ok : Nat → Prop) (objs : List Obj) (blk : Nat → Option Nat) : RepT w ok objs blk (.tup []) undef := ⟨[], rfl, rfl, fun _ _ _ h => by simp at h⟩
theorem getD_eval {base prot : Nat → Prop} {w0 : Wz} {blk : Nat → Option Nat} {a : Act} {w : World} (R : Rel base prot w0 S blk a w) (d : Nat) :
    RepT w (okL base S.objs blk) S.objs blk (S.tmps.getD d .dead) (a.tmps.getD d undef) := R.ev (.tmp d)
theorem q8s {xs : List PV} {d : Nat} {p : PV} (h : xs.getD d .dead = p) (hp : p ≠ .dead) : xs.set d p = xs := by
  by_cases hd : d < xs.length
  · rw [List.getD_eq_getElem?_getD, List.getElem?_eq_getElem hd, Option.getD_some] at h
    subst h
    exact List.set_getElem_self hd
  · rw [List.getD_eq_getElem?_getD, List.getElem?_eq_none (Nat.le_of_not_lt hd), Option.getD_none] at h
    exact absurd h.symm hp
theorem q69 {ops : List Oper} {g : Option (Nat × Bool)} {X Y : St → Prop} {base prot : Nat → Prop} {w0 : Wz} {blk : Nat → Option Nat} {a : Act} {w : World}
    (R : Rel base prot w0 S blk a w) (h : q4p ops g S X Y) (o : Oper) (ho : o.guard = g) :
    (Region.wanted o (yielded ops.toArray a.tmps) = true ∧ X S) ∨ (Region.wanted o (yielded ops.toArray a.tmps) = false ∧ Y S) := by
  unfold q4p at h
  split at h
  · exact .inl ⟨by simp [Region.wanted, ho], h⟩
  · rename_i j want
    split at h
    · exact h.elim
    · rename_i d hd
      have hy : yielded ops.toArray a.tmps j = (match a.tmps[d]? with | some (.bool b) => some b | _ => none) := by
        have hd' : (ops.toArray[j]?).bind (·.dst) = some d := by simpa using hd
        unfold yielded
        rw [hd']
        rfl
      have hr := getD_eval R d
      split at h
      · rename_i b hb
        rw [hb] at hr
        have hv := hr.bool
        have hlt : d < a.tmps.size := by
          rcases Nat.lt_or_ge d a.tmps.size with hh | hh
          · exact hh
          · rw [Array.getD_eq_getD_getElem?, Array.getElem?_eq_none hh] at hv
            simp [undef] at hv
        have hg : a.tmps[d]? = some (.bool b) := by
          rw [Array.getD_eq_getD_getElem?, Array.getElem?_eq_getElem hlt, Option.getD_some] at hv
          rw [Array.getElem?_eq_getElem hlt, hv]
        rw [hg] at hy
        simp only [] at hy
        by_cases hbw : b = want
        · left
          have := h.1 hbw
          rw [q8s (by rw [hb, hbw]) (by simp)] at this
          exact ⟨by simp [Region.wanted, ho, hy, hbw], this⟩
        · right
          have hbn : b = !want := by cases b <;> cases want <;> simp_all
          have := h.2 hbn
          rw [q8s (by rw [hb, hbn]) (by simp)] at this
          exact ⟨by simp [Region.wanted, ho, hy, hbn], this⟩
      · rename_i hb
        rw [hb] at hr
        right
        obtain ⟨vs, hv, hl⟩ := hr
        have hvs : vs = [] := List.eq_nil_of_length_eq_zero hl.1.symm
        subst hvs
        have hn : (match a.tmps[d]? with | some (.bool b) => some b | _ => none) = none := by
          rw [Array.getD_eq_getD_getElem?] at hv
          cases hx : a.tmps[d]? with
          | none => rfl
          | some v => rw [hx, Option.getD_some] at hv; subst hv; rfl
        rw [hn] at hy
        exact ⟨by simp [Region.wanted, ho, hy], h⟩
      · exact h.elim
theorem q6a {own : Nat → Bool} {ops : List Oper} {Qm : Exit → Act → World → Prop} (hD : ∀ t, TOk P t (D t)) (base prot : Nat → Prop) (w0 : Wz) :
    ∀ (lst : List Oper) (k : Nat) (S : St) (ts : List Nat) (K : St → List Nat → Prop) (blk : Nat → Option Nat) (a : Act) (w : World), (∀ j, lst[j]? = ops[k + j]?) → listR P D own ops lst k S ts K → Rel base prot w0 S blk a w →
      (∀ S' ts' blk' a' w', K S' ts' → Rel base prot w0 S' blk' a' w' → Qm .normal a' w') → wpOpsIn (fen l) 0 P ops.toArray Qm (List.range' k lst.length) a w
  | [], k, S, ts, K, blk, a, w, _, h, R, hq => hq S ts blk a w h R
  | o :: lst, k, S, ts, K, blk, a, w, hl, h, R, hq => by
    have h0 : ops.toArray[k]? = some o := by simpa using (hl 0).symm
    have hl' : ∀ j, lst[j]? = ops[k + 1 + j]? := fun j => by have := hl (j + 1); simpa [Nat.add_assoc, Nat.add_comm 1 j] using this
    simp only [List.length_cons, List.range'_succ, wpOpsIn, h0]
    unfold listR at h
    rcases q69 R h o rfl with ⟨hw, hx⟩ | ⟨hw, hy⟩
    · rw [if_pos hw]
      exact q8r l hD R hx fun r objs' t v w' blk' hK R' hr => q6a hD base prot w0 lst (k + 1) _ _ K blk' _ w' hl' hK (R'.put hr o.dst) hq
    · rw [if_neg (by rw [hw]; simp)]
      exact ⟨fun _ _ => trivial, q6a hD base prot w0 lst (k + 1) _ _ K blk _ w hl' hy (R.put (q6t _ _ _ _) o.dst) hq⟩
theorem PW.region {id : Nat} {ops : List Oper} (own : Nat → Bool) (hD : ∀ t, TOk P t (D t)) (h : listR P D own ops ops 0 S [] fun S' _ => Q .normal S') : PW P l E (.region id ops.toArray false) Q S := by
  intro base prot V hE blk a w ⟨w0, hV, R⟩
  refine wpIn_region ?_
  have := q6a (l := l) (Qm := fun e a' w' => ∃ S' blk', Q e S' ∧ RelV base prot V S' blk' a' w') hD base prot w0 ops 0 S [] _ blk a w (fun j => by simp) h R (fun S' ts' blk' a' w' hK R' => ⟨S', blk', hK, w0, hV, R'⟩)
  rw [List.range_eq_range']
  simpa using this
end Lp
