/-
  Part 2 of what the statement rests on: LpK, LpL, LpM. No condition.
-/
import Derived.Test.YtfgfjbcoeakonaaGreatDoorLp1
import Derived.RangeFuncCalls
import Derived.OrdersIn

set_option linter.all false
set_option maxHeartbeats 8000000
set_option maxRecDepth 100000
namespace Lp
open Go
def Enters (P:Program) (f:FuncId):Prop:=∃ fn,P.funcs[f]?=some fn∧(fn.name== "runtime.NumGoroutine")=false∧fn.body.isNone=false
def ai (P:Program) (f:FuncId) (args:List PV) (objs:List Obj) (r:PV) (objs':List Obj):Prop:=
 Enters P f∧
 ∀ (w:World) (blk:Nat→Option Nat) (vs:List Value) (base:Nat→Prop),(rU.holds w.heap∧∀ b,w.heap.size≤b→base b)→
  dZ base (fun b=>b<w.heap.size∧bf objs blk b) objs blk w→dw (aZ w (dn base objs blk) objs blk) args vs→
  Calls P f ⟨vs⟩ w fun e w'=>∃ v ay,e=.returned v∧dZ base (fun b=>b<w.heap.size∧bf objs blk b) objs' ay w'∧
   aZ w' (dn base objs' ay) objs' ay r v∧(∀ b,b<w.heap.size→bf objs blk b→w'.heap[b]?=w.heap[b]?)∧w.heap.size≤w'.heap.size∧Sm w w'
def PV.qi (n:Nat):PV→PV
 | .bA k ver=>.bA (k+n) ver
 | .bR k ver i f=>.bR (k+n) ver i f
 | .uw k ver=>.uw (k+n) ver
 | p=>p
def PV.shift (n:Nat):PV→PV
 | .fn f a c=>.fn f (a.map (.qi n)) (c.map (.qi n))
 | .bP cs=>.bP (cs.map (.qi n))
 | .agg cs=>.agg (cs.map (.qi n))
 | p=>p.qi n
def PV.wD:PV→Bool
 | .int .. | .bool _ | .str _ | .Bp | .Dy | .GK | .GL | .sl _ [] (some true)=>true
 | _=>false
def PV.flat:PV→Bool
 | .bP cs=>cs.all PV.wD
 | p=>p.wD
def fB (objs:List Obj):Prop:=∀ o ∈ objs,∀ x ∈ o.xs,∀ p ∈ x.cells,p.ref=false
def acO (objs:List Obj) (p:PV) (p':PV):Prop:=
 match p with
 | .bA k ver=>∃ o,objs[k]?=some o∧o.live=true∧o.ver=ver∧(∀ x ∈ o.xs,∀ c ∈ x.cells,c.ref=false)∧p'=.sl o.sz o.xs none
 | .bR k ver i f=>∃ o e,objs[k]?=some o∧o.live=true∧o.ver=ver∧o.xs[i]?=some e∧f=0∧(∀ c ∈ e.cells,c.ref=false)∧p'=.addr e
 | p=>p.pure=true∧p'=p
def Ph (objs:List Obj):List PV→List PV→Prop
 | [],[]=>True
 | p::ps,q::qs=>acO objs p q∧Ph objs ps qs
 | _,_=>False
def PV.atom:PV→Bool
 | .int .. | .bool _ | .str _=>true
 | _=>false
def Vm (P:Program) (f:FuncId) (args:List PV) (objs:List Obj) (r:PV) (objs':List Obj):Prop:=
 Enters P f∧objs'.length=objs.length∧
 ∀ (base ak:Nat→Prop) (w0:Wz) (tmps:List PV) (blk:Nat→Option Nat) (a:Act) (w:World) (vs:List Value),Rel base ak w0 ⟨tmps,objs⟩ blk a w→
  dw (aZ w (dn base objs blk) objs blk) args vs→
  Calls P f ⟨vs⟩ w fun e w'=>∃ v ay,e=.returned v∧Rel base ak w0 ⟨tmps,objs'⟩ ay a w'∧aZ w' (dn base objs' ay) objs' ay r v
inductive mI (P:Program) (f:FuncId) (args:List PV) (objs:List Obj):PV→List Obj→Nat→Prop
 | pure (r:PV) (hargs:args.all PV.pure=true) (h:ai P f args [] r []):mI P f args objs r objs 0
 | made (r:PV) (o:Obj) (hargs:args.all PV.pure=true) (hnew:fB [o]) (h:ai P f args [] r [o]):mI P f args objs (r.shift objs.length) (objs++[o]) 2
 | used (r:PV) (objs':List Obj) (h:Vm P f args objs r objs'):mI P f args objs r objs' 2
 | Vn (ver:Nat) (o:Obj) (args':List PV) (hargs:Ph objs args args') (hnew:∀ x ∈ o.xs,∀ p ∈ x.cells,p.atom=true) (h:ai P f args' [] (.bA 0 ver) [o]):mI P f args objs (.bA objs.length ver) (objs++[o]) 2
 | Vh (ver:Nat) (q:PV) (o:Obj) (args':List PV) (hargs:Ph objs args args') (hnew:∀ x ∈ o.xs,∀ p ∈ x.cells,p.atom=true) (hq:q.atom=true) (h:ai P f args' [] (.bP [.bA 0 ver,q]) [o]):mI P f args objs (.bP [.bA objs.length ver,q]) (objs++[o]) 2
 | acP (r:PV) (args':List PV) (hargs:Ph objs args args') (hr:r.flat=true) (h:ai P f args' [] r []):mI P f args objs r objs 1
def G6 (P:Program) (f:PV) (args:List PV) (objs:List Obj) (K:KT):Prop:=
 match f with
 | .fn g first cap=>∃ r objs' t,mI P g (first++args++cap) objs r objs' t∧K r objs' t
 | _=>False
def fG (D:TypeId→aJ) (b:Builtin) (ts:List TypeId) (args:List Operand) (ev:Operand→PV) (objs:List Obj) (K:KT):Prop:=
 match b,ts,args with
 | .len,[t],[x]=>qg D t (ev x) objs K
 | .append,[t,u],[s,x]=>eO D t u (ev s) (ev x) objs K
 | .max,_,xs=>iI true (xs.map ev) fun r=>K r objs 0
 | .min,_,xs=>iI false (xs.map ev) fun r=>K r objs 0
 | _,_,_=>False
def Jt (P:Program) (D:TypeId→aJ) (own:Bool) (ev:Operand→PV) (objs:List Obj) (op:Op) (K:KT):Prop:=
 match op with
 | .move x | .assign x=>K (ev x) objs 0
 | .pick c x y=>rC (ev c) (ev x) (ev y) objs K
 | .alloc t=>rW t (D t) objs K
 | .box t x=>JE t (D t) (ev x) objs K
 | .build t ps=>bK D t (ps.toList.map fun x=>(x.1,ev x.2)) objs K
 | .buildSlice t n ps=>bQ D own t n (ps.toList.map fun x=>(x.1,ev x.2)) objs K
 | .load t x=>fF (D t) (ev x) objs K
 | .store t x y=>jQ (D t) (ev x) (ev y) objs K
 | .nilCheck x=>dS (ev x) objs K
 | .binOp b t x y _=>qf P (D t) t b (ev x) (ev y) fun r=>K r objs 0
 | .unOp u _ x=>OJ u (ev x) fun r=>K r objs 0
 | .convert s t x=>ko D s t (ev x) objs K
 | .makeFunc (.func f) first cap=>jO f (first.toList.map ev) (cap.toList.map ev) objs K
 | .makeSlice t l c=>fI D t (ev l) (ev c) objs K
 | .slice t x lo hi none=>jf D t (ev x) (lo.map ev) (hi.map ev) objs K
 | .fieldAddr t x f=>aN D t (ev x) f objs K
 | .field t x f=>oP D t (ev x) f objs K
 | .indexAddr t x i=>bq D t (ev x) (ev i) objs K
 | .index t x i=>lS D t (ev x) (ev i) objs K
 | .extract x i=>bU (ev x) i objs K
 | .call { callee:=.builtin b,args,argTypes }=>fG D b argTypes.toList args.toList ev objs K
 | .call { callee:=.value f,args,.. }=>G6 P (ev f) (args.toList.map ev) objs K
 | .makeMap t none=>lD D t objs K
 | .lookup t x ix ok=>jT D t (ev x) (ev ix) ok objs K
 | .mapUpdate t x k v=>gX D t (ev x) (ev k) (ev v) objs K
 | .insert t x k v=>gX D t (ev x) (ev k) (ev v) objs K
 | _=>False
section
variable {P:Program}{base ak:Nat→Prop}{w0:Wz}{S:St}{blk:Nat→Option Nat}{a:Act}{w:World}{D:TypeId→aJ}
theorem WC {f:FuncId}{args:Array Value}{R:Ending→World→Prop}(h:Calls P f args w R) (l:Option Nat):CallsIn (F6 l) 0 P f args w R:=by
 have h':CallsIn Fence.wide 0 P f args w R:=callsIn_wide.2 h
 cases l with
 | none=>exact h'
 | some l=>exact h'.inRound l
theorem dN.oV {ok:Nat→Prop}{p:PV}{v:Value}(h:dN w ok p v){ok':Nat→Prop}(hok:∀ b,b<w.heap.size→ok b→ok' b):dN w ok' p v:=
 h.mono (Nat.le_refl _) hok (fun _ _ _ h=>h)
theorem DJ {w':World}{ok ok':Nat→Prop}{p:PV}{v:Value}(hp:p.wD=true) (h:dN w ok p v):dN w' ok' p v:=by
 cases h with
 | sl sz xs q hq=>
  exfalso
  unfold PV.wD at hp
  split at hp <;> first | (cases hp;done) | skip
  all_goals first | (rename_i e;cases e;done) | (rename_i e;injection e with _ _ e3;exact hq e3) | skip
 | JB sz q hq=>
  exfalso
  unfold PV.wD at hp
  split at hp <;> first | (cases hp;done) | skip
  all_goals first | (rename_i e;cases e;done) | (rename_i e;injection e with _ _ e3;exact hq e3) | skip
 | slnil sz q hq=>exact .slnil sz q hq
 | int=>exact .int _ _
 | bool=>exact .bool _
 | str=>exact .str _
 | Bp=>exact .Bp
 | Dy=>exact .Dy
 | GK=>exact .GK
 | GL=>exact .GL
 | _=>simp [PV.wD] at hp
theorem DK {p:PV}(h:p.wD=true):p.ref=false:=by
 cases p <;> first | rfl | (simp [PV.wD] at h)
theorem YO {ok ok':Nat→Prop}{objs objs':List Obj}{blk ay:Nat→Option Nat}{w':World}{r:PV}{v:Value}(hr:r.flat=true) (h:aZ w ok objs blk r v):aZ w' ok' objs' ay r v:=by
 cases r with
 | bP cs=>
  obtain ⟨vs,rfl,h1,h2⟩:=h
  refine ⟨vs,rfl,h1,fun i p u hp hu=>?_⟩
  have hf:=List.all_eq_true.1 hr p (List.mem_of_getElem? hp)
  exact .aL (DJ hf ((h2 i p u hp hu).zJ (DK hf)))
 | fn f a c=>simp [PV.flat,PV.wD] at hr
 | agg cs=>simp [PV.flat,PV.wD] at hr
 | _=>
  simp only [PV.flat] at hr
  exact .aL (DJ hr (bS.zJ (w:=w) (ok:=ok) (objs:=objs) (blk:=blk) h (DK hr)))
theorem aaU (objs:List Obj) (o:Obj):(objs++[o])[objs.length]?=some o:=by simp
def sP (base:Nat→Prop) (S:St) (blk:Nat→Option Nat) (w:World) (b:Nat):Prop:=dn base S.objs blk b∨w.heap.size≤b
theorem d9 (blk:Nat→Option Nat) (b:Nat):bf [] blk b:=fun k o h=>by simp at h
theorem Ms {objs':List Obj}{ay:Nat→Option Nat}(R:Rel base ak w0 S blk a w){b:Nat}(h:dn (sP base S blk w) objs' ay b):dn base S.objs blk b:=by
 rcases h.1 with h | h
 · exact h
 · refine ⟨R.bs b (Nat.le_trans R.gr h),fun k o h1 h2 h3=>?_⟩
   have:=F7 R.objs h1 h2 h3
   omega
theorem Pj {o:Obj}{ay:Nat→Option Nat}(R:Rel base ak w0 S blk a w) (ho:o.live=true){b:Nat}(h:dn (sP base S blk w) [o] ay b) :
  dn base (S.objs++[o]) (aK blk S.objs.length (ay 0)) b:=by
 have h0:=Ms R h
 refine ⟨h0.1,fun k ob h1 h2=>?_⟩
 rcases mH h1 with ⟨hk,h1⟩ | ⟨rfl,rfl⟩
 · unfold aK;rw [if_neg (by omega)];exact h0.2 k ob h1 h2
 · unfold aK;rw [if_pos rfl];exact h.2 0 ob rfl h2
theorem Rel.made {w':World}{ay:Nat→Option Nat}{o:Obj}(R:Rel base ak w0 S blk a w) (hg:kY w w') (hnew:fB [o])
  (h:dZ (sP base S blk w) (fun b=>b<w.heap.size∧bf [] blk b) [o] ay w') :
  Rel base ak w0 ⟨S.tmps,S.objs++[o]⟩ (aK blk S.objs.length (ay 0)) a w':=by
 cases ho:o.live with
 | false=>
  have hb:∀ k,k<S.objs.length→aK blk S.objs.length (ay 0) k=blk k:=fun k hk=>by unfold aK;rw [if_neg (by omega)]
  have ho':nM w w' S.objs (S.objs++[o]) blk (aK blk S.objs.length (ay 0)):=by
   intro k ob hk
   have hkl:=(List.getElem?_eq_some_iff.1 hk).1
   exact ⟨ob,by rw [List.getElem?_append,if_pos hkl];exact hk,Nat.le_refl _,fun hl _=>⟨hl,hb k hkl,rfl,rfl,fun _=>rfl,fun g c _ hc=>⟨c,hg.2.1 g _ hc,rfl⟩⟩⟩
  have hget:∀ (k:Nat) (ob:Obj),(S.objs++[o])[k]?=some ob→ob.live=true→k<S.objs.length∧S.objs[k]?=some ob:=by
   intro k ob h1 h2
   rcases mH h1 with h1 | ⟨_,rfl⟩
   · exact h1
   · rw [ho] at h2;cases h2
  have hok:∀ b,dn base S.objs blk b→dn base (S.objs++[o]) (aK blk S.objs.length (ay 0)) b:=fun b hb0=>⟨hb0.1,fun k ob h1 h2=>by
   obtain ⟨hk,h1⟩:=hget k ob h1 h2
   rw [hb k hk];exact hb0.2 k ob h1 h2⟩
  refine R.change hg.1 (fun b x _ h=>hg.2.1 b x h) (fun b _ h=>hok b h) ho' ⟨?_,?_,?_⟩ hg.2.2
  · intro k ob h1 h2
    obtain ⟨hk,h1⟩:=hget k ob h1 h2
    have hh:=R.objs.ob k ob h1 h2
    unfold dm at hh ⊢
    rw [hb k hk]
    cases hbk:blk k with
    | none=>rw [hbk] at hh;exact hh
    | some g=>
     rw [hbk] at hh
     obtain ⟨c',x1,x2,x3⟩:=hh
     refine ⟨c',hg.2.1 g _ x1,x2,fun i x hx=>⟨(x3 i x hx).1,fun j p hp=>?_⟩⟩
     obtain ⟨v,y1,y2⟩:=(x3 i x hx).2 j p hp
     exact ⟨v,y1,y2.mono hg.1 (fun b _ h=>hok b h) (fun b x _ h=>hg.2.1 b x h) ho'⟩
  · intro k k' ob ob' g hne h1 h2 h3 h4 h5 h6
    obtain ⟨hk,h1⟩:=hget k ob h1 h2
    obtain ⟨hk',h3⟩:=hget k' ob' h3 h4
    rw [hb k hk] at h5;rw [hb k' hk'] at h6
    exact R.objs.KZ k k' ob ob' g hne h1 h2 h3 h4 h5 h6
  · intro k ob g h1 h2 h3 h4
    obtain ⟨hk,h1⟩:=hget k ob h1 h2
    rw [hb k hk] at h3
    exact R.objs.np k ob g h1 h2 h3 h4
 | true=>
  refine R.DI hg (fun g hgb=>?_) fun hr=>?_
  · rcases Nat.lt_or_ge g w.heap.size with hlt | hge
    · exact absurd ⟨hlt,d9 blk g⟩ (h.np 0 o g rfl ho hgb)
    · exact hge
  · have hh:=h.ob 0 o rfl ho
    unfold dm at hh ⊢
    have hb':aK blk S.objs.length (ay 0) S.objs.length=ay 0:=by unfold aK;rw [if_pos rfl]
    rw [hb']
    cases hb0:ay 0 with
    | none=>rw [hb0] at hh;exact hh
    | some g=>
     rw [hb0] at hh
     obtain ⟨c,x1,x2,x3⟩:=hh
     refine ⟨c,x1,x2,fun i x hx=>⟨(x3 i x hx).1,fun j p hp=>?_⟩⟩
     obtain ⟨v,y1,y2⟩:=(x3 i x hx).2 j p hp
     refine ⟨v,y1,.aL ((y2.zJ (hnew o (by simp) x (List.mem_of_getElem? hx) p (List.mem_of_getElem? hp))).oV fun b _ hbk=>?_)⟩
     rw [← hb0]
     exact Pj R ho hbk
theorem rD (base ak:Nat→Prop) (blk:Nat→Option Nat) (w:World):dZ base ak [] blk w:=
 ⟨fun k o h=>by simp at h,fun k k' o o' g _ h=>by simp at h,fun k o g h=>by simp at h⟩
theorem K9 {args:List PV}{vs:List Value}(h:dw (aZ w (dn base S.objs blk) S.objs blk) args vs) (hp:args.all PV.pure=true) :
  dw (aZ w (dn (sP base S blk w) [] blk) [] blk) args vs:=
 ⟨h.1,fun i p v a b=>.aL (((h.2 i p v a b).zJ (List.all_eq_true.1 hp p (List.mem_of_getElem? a))).oV fun _ _ hb=>⟨.inl hb,d9 _ _⟩)⟩
theorem lF {w':World}(h:∀ b,b<w.heap.size→bf [] blk b→w'.heap[b]?=w.heap[b]?) (hs:w.heap.size≤w'.heap.size∧Sm w w'):kY w w':=
 ⟨hs.1,fun b x hx=>by rw [h b (Array.getElem?_eq_some_iff.1 hx).1 (d9 _ _)];exact hx,hs.2⟩
theorem YP (R:Rel base ak w0 S blk a w){p p':PV}{v:Value}(h:acO S.objs p p') (hr:aZ w (dn base S.objs blk) S.objs blk p v):dN w (fun _=>True) p' v:=by
 cases p with
 | bA k ver=>
  obtain ⟨o,h1,h2,h3,h4,rfl⟩:=h
  have hh:=hr.bA h1 h2 h3
  unfold Bq at hh
  cases hb:blk k with
  | none=>
   rw [hb] at hh
   rw [hh.1,hh.2]
   exact .slnil _ _ (by simp)
  | some g=>
   rw [hb] at hh
   obtain ⟨cap,c,hv,x1,x2,x3,x4⟩:=hh
   obtain ⟨c',y1,y2,y3⟩:=sM R h1 h2 hb (hr.DF h1 h2 h3)
   rw [x1] at y1;cases y1
   rw [hv]
   refine .sl o.sz o.xs none (by simp) g 0 cap (fun i j=>(c[i*o.sz+j]?).getD undef) (fun _=>⟨trivial,(Array.getElem?_eq_some_iff.1 x1).1⟩) x2 x3 (fun i x hx=>(y3 i x hx).1) ?_ ?_
   · intro i x j p hx hp
     obtain ⟨u,u1,_⟩:=(y3 i x hx).2 j p hp
     simp [World.cell?,x1,u1]
   · intro i x j p hx hp
     obtain ⟨u,u1,u2⟩:=(y3 i x hx).2 j p hp
     rw [u1,Option.getD_some]
     exact (u2.zJ (h4 x (List.mem_of_getElem? hx) p (List.mem_of_getElem? hp))).oV fun _ _ _=>trivial
 | bR k ver i f=>
  obtain ⟨o,e,h1,h2,h3,h4,rfl,h5,rfl⟩:=h
  obtain ⟨g,hb,hv,hty⟩:=hr.bR h1 h2 h3
  obtain ⟨y1,y2⟩:=Sk R.objs h1 h2 h4 hb hty
  obtain ⟨c,x1,_⟩:=sM R h1 h2 hb hty
  rw [hv]
  refine .aaK ⟨trivial,(Array.getElem?_eq_some_iff.1 x1).1⟩ fun j p hp=>?_
  obtain ⟨u,u1,u2⟩:=y2 j p hp
  exact ⟨u,u1,(u2.zJ (h5 p (List.mem_of_getElem? hp))).oV fun _ _ _=>trivial⟩
 | _=>
  obtain ⟨h1,rfl⟩:=h
  exact (hr.zJ h1).oV fun _ _ _=>trivial
theorem xO (R:Rel base ak w0 S blk a w):∀ {ps qs:List PV}{vs:List Value},Ph S.objs ps qs→dw (aZ w (dn base S.objs blk) S.objs blk) ps vs→dw (dN w (fun _=>True)) qs vs
 | [],[],vs,_,h=>⟨h.1,fun i p v hp=>by simp at hp⟩
 | p::ps,q::qs,vs,h,hr=>by
  obtain ⟨h1,h2⟩:=h
  match vs,hr with
  | [],hr=>exact absurd hr.1 (by simp)
  | v::vs,hr=>
   have ih:=xO R h2 ⟨by simpa using hr.1,fun i p u a b=>hr.2 (i+1) p u (by simpa using a) (by simpa using b)⟩
   refine ⟨by simpa using ih.1,fun i p' u hp hu=>?_⟩
   cases i with
   | zero=>simp at hp hu;subst hp;subst hu;exact YP R h1 (hr.2 0 p v rfl rfl)
   | succ i=>exact ih.2 i p' u (by simpa using hp) (by simpa using hu)
theorem bS.acQ {w':World}{ok:Nat→Prop}{ay:Nat→Option Nat}{p:PV}{v:Value}(h:bS w' ok [] ay p v):dN w' ok p v:=by
 cases p with
 | bA k ver=>obtain ⟨_,o,h,_⟩:=h;simp at h
 | bR k ver i f=>obtain ⟨_,o,h,_⟩:=h;simp at h
 | uw k ver=>obtain ⟨_,o,h,_⟩:=h;simp at h
 | _=>exact h
def PV.Sw (f:PV→PV):PV→PV
 | .fn g a c=>.fn g (a.map f) (c.map f)
 | .bP cs=>.bP (cs.map f)
 | .agg cs=>.agg (cs.map f)
 | p=>f p
theorem aZ.Sw {w':World}{ok ok':Nat→Prop}{objs objs':List Obj}{blk ay:Nat→Option Nat}{p:PV}{v:Value}{f:PV→PV}(h:aZ w' ok objs blk p v)
  (hf:∀ q u,bS w' ok objs blk q u→bS w' ok' objs' ay (f q) u) :
  aZ w' ok' objs' ay (p.Sw f) v:=by
 have hl:∀ cs vs,dw (bS w' ok objs blk) cs vs→dw (bS w' ok' objs' ay) (cs.map f) vs:=by
  intro cs vs h
  refine ⟨by simpa using h.1,fun i p v hp hv=>?_⟩
  rw [List.getElem?_map] at hp
  cases hc:cs[i]? with
  | none=>rw [hc] at hp;simp at hp
  | some q=>rw [hc] at hp;simp at hp;subst hp;exact hf q v (h.2 i q v hc hv)
 cases p with
 | fn g a c=>obtain ⟨va,vc,rfl,h1,h2⟩:=h;exact ⟨va,vc,rfl,hl _ _ h1,hl _ _ h2⟩
 | bP cs=>obtain ⟨vs,rfl,h1⟩:=h;exact ⟨vs,rfl,hl _ _ h1⟩
 | agg cs=>obtain ⟨vs,rfl,h1⟩:=h;exact ⟨vs,rfl,hl _ _ h1⟩
 | _=>exact .kL (hf _ _ h)
theorem YQ (n:Nat) (p:PV):p.shift n=p.Sw (.qi n):=by
 cases p <;> rfl
theorem id_eq (p:PV):p=p.Sw id:=by
 cases p <;> simp [PV.Sw]
theorem uM {p:PV}(h:p.atom=true):p.ref=false:=by cases p <;> first | rfl | (simp [PV.atom] at h)
theorem G7 {w':World}{ok ok':Nat→Prop}{objs objs':List Obj}{blk ay:Nat→Option Nat}{p:PV}{v:Value}(hp:p.atom=true) (h:bS w ok objs blk p v):bS w' ok' objs' ay p v:=by
 have h':=h.zJ (uM hp)
 refine .aL ?_
 cases p <;> simp [PV.atom] at hp <;> cases h' <;> constructor
theorem G8 {base' acR za:Nat→Prop}{o:Obj}{ay:Nat→Option Nat}{w':World}(h:dZ base' za [o] ay w') (ho:∀ x ∈ o.xs,∀ p ∈ x.cells,p.atom=true):dZ acR za [o] ay w':=by
 refine ⟨fun k ob h1 h2=>?_,h.KZ,h.np⟩
 have hh:=h.ob k ob h1 h2
 have he:ob=o:=by
  cases k with
  | zero=>simp at h1;exact h1.symm
  | succ k=>simp at h1
 subst he
 unfold dm at hh ⊢
 cases hb:ay k with
 | none=>rw [hb] at hh;exact hh
 | some g=>
  rw [hb] at hh
  obtain ⟨c,x1,x2,x3⟩:=hh
  exact ⟨c,x1,x2,fun i x hx=>⟨(x3 i x hx).1,fun j p hp=>let ⟨v,y1,y2⟩:=(x3 i x hx).2 j p hp;⟨v,y1,G7 (ho x (List.mem_of_getElem? hx) p (List.mem_of_getElem? hp)) y2⟩⟩⟩
theorem Sy {f:FuncId}{args:List PV}{vs:List Value}{r:PV}{objs':List Obj}{t:Nat}(R:Rel base ak w0 S blk a w) (h:mI P f args S.objs r objs' t)
  (hargs:dw (aZ w (dn base S.objs blk) S.objs blk) args vs) :
  Enters P f∧Calls P f ⟨vs⟩ w fun e w'=>∃ v ay,e=.returned v∧Rel base ak w0 ⟨S.tmps,objs'⟩ ay a w'∧aZ w' (dn base objs' ay) objs' ay r v:=by
 cases h with
 | pure r hp h=>
  refine ⟨h.1,(h.2 w blk vs (sP base S blk w) ⟨R.nL,fun b hb=>.inr hb⟩ (rD _ _ _ _) (K9 hargs hp)).mono fun e w' ⟨v,ay,h1,h2,h3,h4,h5⟩=>?_⟩
  have hg:=lF h4 h5
  refine ⟨v,blk,h1,R.grew hg,?_⟩
  rw [id_eq r]
  refine h3.Sw (f:=id) fun q u hq=>?_
  have hq':=hq.acQ
  refine .aL (hq'.mono (Nat.le_refl _) (fun b _ hb=>?_) (fun _ _ _ h=>h))
  exact Ms R hb
 | made r o hp hnew h=>
  refine ⟨h.1,(h.2 w blk vs (sP base S blk w) ⟨R.nL,fun b hb=>.inr hb⟩ (rD _ _ _ _) (K9 hargs hp)).mono fun e w' ⟨v,ay,h1,h2,h3,h4,h5⟩=>?_⟩
  have hg:=lF h4 h5
  refine ⟨v,aK blk S.objs.length (ay 0),h1,R.made hg hnew h2,?_⟩
  rw [YQ]
  refine h3.Sw fun q u hq=>?_
  have h0:∀ (k:Nat) (ob:Obj),[o][k]?=some ob→k=0∧ob=o:=by
   intro k ob hk
   cases k with
   | zero=>simp at hk;exact ⟨rfl,hk.symm⟩
   | succ k=>simp at hk
  have hbl:aK blk S.objs.length (ay 0) S.objs.length=ay 0:=by unfold aK;rw [if_pos rfl]
  cases q with
  | bA k ver=>
   obtain ⟨ho,ob,g1,g2,g3⟩:=hq
   obtain ⟨rfl,rfl⟩:=h0 k ob g1
   refine ⟨ho,ob,by simp,g2,fun hl hv=>?_⟩
   obtain ⟨hM,this⟩:=g3 hl hv
   refine ⟨hM,?_⟩
   unfold Bq at this ⊢
   rw [Nat.zero_add,hbl];exact this
  | bR k ver i f=>
   obtain ⟨ho,ob,g1,g2,g3⟩:=hq
   obtain ⟨rfl,rfl⟩:=h0 k ob g1
   refine ⟨ho,ob,by simp,g2,fun hl hv=>?_⟩
   obtain ⟨hM,g,e1,e2⟩:=g3 hl hv
   exact ⟨hM,g,by rw [Nat.zero_add,hbl];exact e1,e2⟩
  | uw k ver=>
   obtain ⟨ho,ob,g1,g2,g3⟩:=hq
   obtain ⟨rfl,rfl⟩:=h0 k ob g1
   refine ⟨ho,ob,by simp,g2,fun hl hv=>?_⟩
   obtain ⟨hM,g,e1,e2⟩:=g3 hl hv
   exact ⟨hM,g,by rw [Nat.zero_add,hbl];exact e1,e2⟩
  | _=>
   have hq':dN w' _ _ u:=hq
   cases hl:o.live with
   | true=>exact .aL (hq'.mono (Nat.le_refl _) (fun b _ hb=>Pj R hl hb) (fun _ _ _ h=>h))
   | false=>
    refine .aL (hq'.mono (Nat.le_refl _) (fun b _ hb=>?_) (fun _ _ _ h=>h))
    have h0:=Ms R hb
    refine ⟨h0.1,fun k ob m1 m2=>?_⟩
    rcases mH m1 with ⟨hk,m3⟩ | ⟨_,eo⟩
    · unfold aK;rw [if_neg (by omega)];exact h0.2 k ob m3 m2
    · rw [eo,hl] at m2;cases m2
 | used r objs' h=>exact ⟨h.1,h.2.2 base ak w0 S.tmps blk a w vs R hargs⟩
 | Vn ver o args' hl hnew h=>
  have ha:=xO R hl hargs
  refine ⟨h.1,(h.2 w blk vs (fun _=>True) ⟨R.nL,fun _ _=>trivial⟩ (rD _ _ _ _) ⟨ha.1,fun i p v a b=>.aL ((ha.2 i p v a b).oV fun _ _ _=>⟨trivial,d9 _ _⟩)⟩).mono fun e w' ⟨v,ay,h1,h2,h3,h4,h5⟩=>?_⟩
  have hg:=lF h4 h5
  have hn:fB [o]:=fun ob EK x hx p hp=>by
   have:ob=o:=by simpa using EK
   subst this
   exact uM (hnew x hx p hp)
  refine ⟨v,aK blk S.objs.length (ay 0),h1,R.made hg hn (G8 h2 hnew),?_⟩
  have hbl:aK blk S.objs.length (ay 0) S.objs.length=ay 0:=by unfold aK;rw [if_pos rfl]
  obtain ⟨ho,ob,g1,g2,g3⟩:=h3
  have he:ob=o:=by simpa using g1.symm
  subst he
  refine ⟨ho,ob,by simp,g2,fun hl hv=>?_⟩
  obtain ⟨hM,this⟩:=g3 hl hv
  refine ⟨hM,?_⟩
  unfold Bq at this ⊢
  rw [hbl];exact this
 | Vh ver q o args' hl hnew hq h=>
  have ha:=xO R hl hargs
  refine ⟨h.1,(h.2 w blk vs (fun _=>True) ⟨R.nL,fun _ _=>trivial⟩ (rD _ _ _ _) ⟨ha.1,fun i p v a b=>.aL ((ha.2 i p v a b).oV fun _ _ _=>⟨trivial,d9 _ _⟩)⟩).mono fun e w' ⟨v,ay,h1,h2,h3,h4,h5⟩=>?_⟩
  have hg:=lF h4 h5
  have hn:fB [o]:=fun ob EK x hx p hp=>by
   have:ob=o:=by simpa using EK
   subst this
   exact uM (hnew x hx p hp)
  refine ⟨v,aK blk S.objs.length (ay 0),h1,R.made hg hn (G8 h2 hnew),?_⟩
  have hbl:aK blk S.objs.length (ay 0) S.objs.length=ay 0:=by unfold aK;rw [if_pos rfl]
  obtain ⟨us,rfl,h3⟩:=h3
  refine ⟨us,rfl,h3.1,fun i p u hp hu=>?_⟩
  match i with
  | 0=>
   cases hp
   obtain ⟨ho,ob,g1,g2,g3⟩:=h3.2 0 _ u rfl hu
   have he:ob=o:=by simpa using g1.symm
   subst he
   refine ⟨ho,ob,by simp,g2,fun hl hv=>?_⟩
   obtain ⟨hM,this⟩:=g3 hl hv
   refine ⟨hM,?_⟩
   unfold Bq at this ⊢
   rw [hbl];exact this
  | 1=>
   cases hp
   exact G7 hq (h3.2 1 _ u rfl hu)
  | i+2=>simp at hp
 | acP r args' hl hr h=>
  have ha:=xO R hl hargs
  refine ⟨h.1,(h.2 w blk vs (fun _=>True) ⟨R.nL,fun _ _=>trivial⟩ (rD _ _ _ _) ⟨ha.1,fun i p v a b=>.aL ((ha.2 i p v a b).oV fun _ _ _=>⟨trivial,d9 _ _⟩)⟩).mono fun e w' ⟨v,ay,h1,h2,h3,h4,h5⟩=>?_⟩
  exact ⟨v,blk,h1,R.grew (lF h4 h5),YO hr h3⟩
theorem WE {f:FuncId}{args:List PV}{objs objs':List Obj}{r:PV}{t:Nat}(h:mI P f args objs r objs' t):EJ objs objs':=by
 cases h with
 | pure _ _ _=>exact .same rfl
 | acP _ _ _ _ _=>exact .same rfl
 | used _ _ h=>exact .same h.2.1
 | Vn ver o _ _ hnew _=>
  refine .of fun i x hx j p hp=>?_
  have:=hnew x (List.mem_of_getElem? hx) p (List.mem_of_getElem? hp)
  cases p <;> first | rfl | (simp [PV.atom] at this)
 | Vh ver q o _ _ hnew _ _=>
  refine .of fun i x hx j p hp=>?_
  have:=hnew x (List.mem_of_getElem? hx) p (List.mem_of_getElem? hp)
  cases p <;> first | rfl | (simp [PV.atom] at this)
 | made r o _ hnew _=>
  refine .of fun i x hx j p hp=>?_
  have:=hnew o (by simp) x (List.mem_of_getElem? hx) p (List.mem_of_getElem? hp)
  cases p <;> first | rfl | (simp [PV.ref] at this)
theorem K_ {own:Bool}{o:Oper}{K:KT}{next:Act→World→Prop}{Q:Exit→Act→World→Prop}(l:Option Nat) (hD:∀ t,iY P t (D t)) (R:Rel base ak w0 S blk a w)
  (h:Jt P D own S.ev S.objs o.op K)
  (hn:∀ r objs' t v w' ay,K r objs' t→Rel base ak w0 ⟨S.tmps,objs'⟩ ay a w'→aZ w' (dn base objs' ay) objs' ay r v→EJ S.objs objs'→next (a.put o.dst v) w') :
  o.wpIn (F6 l) 0 P a w next Q:=by
 have fin:(∀ c,o.op≠.defer c)→Out P base ak w0 S o a w K→o.wpIn (F6 l) 0 P a w next Q:=by
  rintro hd ⟨v,w',r,objs',t,ay,h1,h2,h3,h4,h5⟩
  exact O3 hd h1 (hn r objs' t v w' ay h2 h3 h4 h5)
 unfold Jt at h
 split at h <;> rename_i ho
 · exact fin (by rw [ho];simp) (O9 (.inl ho) R h)
 · exact fin (by rw [ho];simp) (O9 (.inr ho) R h)
 · exact fin (by rw [ho];simp) (YM ho R h)
 · exact fin (by rw [ho];simp) (Wt ho hD R h)
 · exact fin (by rw [ho];simp) (aaM ho hD R h)
 · exact fin (by rw [ho];simp) (WA ho hD R h)
 · exact fin (by rw [ho];simp) (GV ho hD R h)
 · exact fin (by rw [ho];simp) (YL ho hD R h)
 · exact fin (by rw [ho];simp) (Wu ho hD R h)
 · exact fin (by rw [ho];simp) (Ml ho R h)
 · exact fin (by rw [ho];simp) (aaQ ho hD R h)
 · exact fin (by rw [ho];simp) (acM ho R h)
 · exact fin (by rw [ho];simp) (YN ho hD R h)
 · exact fin (by rw [ho];simp) (Mq ho R h)
 · exact fin (by rw [ho];simp) (JH ho hD R h)
 · exact fin (by rw [ho];simp) (Wy ho hD R h)
 · exact fin (by rw [ho];simp) (JF ho hD R h)
 · exact fin (by rw [ho];simp) (Wp ho hD R h)
 · exact fin (by rw [ho];simp) (JG ho hD R h)
 · exact fin (by rw [ho];simp) (Ws ho hD R h)
 · exact fin (by rw [ho];simp) (O_ ho R h)
 · rename_i b args argTypes
   refine fin (by rw [ho];simp) ?_
   unfold fG at h
   split at h
   · rename_i t x e1 e2
     have JI:argTypes=#[t]:=by apply Array.ext';simpa using e1
     have e2':args=#[x]:=by apply Array.ext';simpa using e2
     subst JI;subst e2'
     exact aaL ho hD R h
   · rename_i t u s x e1 e2
     have JI:argTypes=#[t,u]:=by apply Array.ext';simpa using e1
     have e2':args=#[s,x]:=by apply Array.ext';simpa using e2
     subst JI;subst e2'
     exact Sn ho hD R h
   · exact GY (isMax:=true) ho R h
   · exact GY (isMax:=false) ho R h
   · exact h.elim
 · rename_i f args argTypes
   unfold G6 at h
   split at h
   · rename_i g first cap e
     obtain ⟨r,objs',t,hc,hK⟩:=h
     have hf:=R.ev f
     rw [e] at hf
     obtain ⟨va,vc,hv,r1,r2⟩:=hf
     have hargs:dw (aZ w (dn base S.objs blk) S.objs blk) (first++args.toList.map S.ev++cap) (va++args.toList.map a.eval++vc):=by
      have app:∀ {ps qs:List PV}{us ws:List Value}{Rr:PV→Value→Prop},dw Rr ps us→dw Rr qs ws→dw Rr (ps++qs) (us++ws):=by
       intro ps qs us ws Rr h1 h2
       refine ⟨by simp [h1.1,h2.1],fun i p v hp hv=>?_⟩
       rw [List.getElem?_append] at hp hv
       by_cases hi:i<ps.length
       · rw [if_pos hi] at hp;rw [if_pos (by rw [← h1.1];exact hi)] at hv;exact h1.2 _ _ _ hp hv
       · rw [if_neg hi] at hp;rw [if_neg (by rw [← h1.1];exact hi)] at hv;rw [← h1.1] at hv;exact h2.2 _ _ _ hp hv
      exact app (app (r1.mono fun _ _ h=>.kL h) (Bw _ fun x _=>R.ev x)) (r2.mono fun _ _ h=>.kL h)
     obtain ⟨⟨fn,hfn,hname,hbody⟩,hcalls⟩:=Sy R hc hargs
     refine ⟨fun _ _=>trivial,?_⟩
     rw [Oper.semAt_eq _ _ _ (by rw [ho];simp)]
     have hrun:(execOp a.eval o).run P w=.ok (.enter g ⟨va++args.toList.map a.eval++vc⟩) w:=by
      have e1:(Array.mk va)++args.map a.eval++(Array.mk vc)=Array.mk (va++args.toList.map a.eval++vc):=by apply Array.ext';simp
      simp only [execOp,ho,resolve,hv,Deferred.ofValue,Sem.run_bind,Sem.run_pure,Result.andThen_ok,invoke,callFunc,run_program,hfn,hname,hbody,Bool.false_eq_true,if_false]
      rw [e1]
     rw [hrun]
     refine ⟨(fun h=>by cases h),?_⟩
     refine CallsIn.mono (WC hcalls l) fun e w' ⟨v,ay,h1,h2,h3⟩=>?_
     subst h1
     exact hn r objs' t v w' ay hK h2 h3 (WE hc)
   · exact h.elim
 · exact fin (by rw [ho];simp) (Pg ho R h)
 · exact fin (by rw [ho];simp) (Sv ho hD R h)
 · exact fin (by rw [ho];simp) (y_ (.inl ho) hD R h)
 · exact fin (by rw [ho];simp) (y_ (.inr ho) hD R h)
 · exact h.elim
theorem Bz {own:Bool}{o:Oper}{K:KT}{next:Act→World→Prop}{Q:Exit→Act→World→Prop}(l:Option Nat) (hD:∀ t,iY P t (D t)) (R:Rel base ak w0 S blk a w)
  (h:Jt P D own S.ev S.objs o.op K)
  (hn:∀ r objs' t v w' ay,K r objs' t→Rel base ak w0 ⟨S.tmps,objs'⟩ ay a w'→aZ w' (dn base objs' ay) objs' ay r v→next (a.put o.dst v) w') :
  o.wpIn (F6 l) 0 P a w next Q:=K_ l hD R h fun r objs' t v w' ay h1 h2 h3 _=>hn r objs' t v w' ay h1 h2 h3
end
end Lp
namespace Lp
open Go
def co (t:Nat):Nat:=if t≤2 then t else if t % 2=0 then 1 else 2
theorem adL (k:Nat):co (4+2*k)=1:=by unfold co;rw [if_neg (by omega),if_pos (by omega)]
theorem Vo (k:Nat):co (5+2*k)=2:=by unfold co;rw [if_neg (by omega),if_neg (by omega)]
theorem Vp {t:Nat}(h:t≠0):co t≠0:=by unfold co;split <;> (try split) <;> omega
def Mk (mk:Nat→PV):Prop:=mk=(fun n=>.bA n 1)∨mk=(fun n=>.bR n 1 0 0)∨mk=(fun n=>.uw n 1)
structure aaV (A:List Obj→KT→Prop) (objs:List Obj) (r:PV) (o:List Obj) (t:Nat):Prop where
 rd:∀ k,t=4+2*k→o=objs∧k<objs.length∧∀ (d_:List Obj) (K':KT),d_[k]?=objs[k]?→K' r d_ t→A d_ K'
 wr:∀ k,t=5+2*k→(∃ o1,k<objs.length∧o=objs.set k o1∧∀ (d_:List Obj) (K':KT),d_[k]?=objs[k]?→K' r (d_.set k o1) t→A d_ K')∨
  (k=objs.length∧∃ o1 mk,Mk mk∧r=mk k∧o=objs++[o1]∧o1.live=true∧o1.ver=1∧∀ (d_:List Obj) (K':KT),K' (mk d_.length) (d_++[o1]) (5+2*d_.length)→A d_ K')
def yM (A:List Obj→KT→Prop) (objs:List Obj) (K:KT):Prop:=
 ∃ r o t,K r o t∧(co t≠2→o=objs)∧(∀ K':KT,K' r o t→A objs K')∧(t=0→∀ (d_:List Obj) (K':KT),K' r d_ 0→A d_ K')∧aaV A objs r o t
theorem aaV.few {A:List Obj→KT→Prop}{objs:List Obj}{r:PV}{o:List Obj}{t:Nat}(h:t≤2):aaV A objs r o t:=⟨fun k e=>by omega,fun k e=>by omega⟩
variable {P:Program}{D:TypeId→aJ}{ev:Operand→PV}{objs:List Obj}{K:KT}
theorem yM.zero {A:List Obj→KT→Prop}{r:PV}(hK:K r objs 0) (h:∀ (o:List Obj) (K':KT),K' r o 0→A o K'):yM A objs K:=⟨r,objs,0,hK,fun _=>rfl,h _,fun _ o=>h o,.few (by decide)⟩
theorem yM.rd {A:List Obj→KT→Prop}{r:PV}(k:Nat){o:Obj}(hk:objs[k]?=some o) (hK:K r objs (4+2*k)) (h:∀ (d_:List Obj) (K':KT),d_[k]?=objs[k]?→K' r d_ (4+2*k)→A d_ K'):yM A objs K:=
 ⟨r,objs,_,hK,fun _=>rfl,fun K' hk=>h objs K' rfl hk,fun e=>by omega,fun k' e=>by
  have:k'=k:=by omega
  subst this;exact ⟨rfl,(List.getElem?_eq_some_iff.1 hk).1,fun d_ K' he hk=>h d_ K' he hk⟩,fun k' e=>by omega⟩
theorem yM.wr {A:List Obj→KT→Prop}{r:PV}(k:Nat){o:Obj}(o1:Obj) (hk:objs[k]?=some o) (hK:K r (objs.set k o1) (5+2*k))
  (h:∀ (d_:List Obj) (K':KT),d_[k]?=objs[k]?→K' r (d_.set k o1) (5+2*k)→A d_ K'):yM A objs K:=
 ⟨r,_,_,hK,fun e=>absurd (Vo k) e,fun K' hk=>h objs K' rfl hk,fun e=>by omega,fun k' e=>by omega,fun k' e=>by
  have:k'=k:=by omega
  subst this;exact .inl ⟨o1,(List.getElem?_eq_some_iff.1 hk).1,rfl,fun d_ K' he hk=>h d_ K' he hk⟩⟩
theorem yM.new {A:List Obj→KT→Prop}(mk:Nat→PV) (hm:Mk mk) (o1:Obj) (hl:o1.live=true) (hv:o1.ver=1) (hK:K (mk objs.length) (objs++[o1]) (5+2*objs.length))
  (h:∀ (d_:List Obj) (K':KT),K' (mk d_.length) (d_++[o1]) (5+2*d_.length)→A d_ K'):yM A objs K:=
 ⟨_,_,_,hK,fun e=>absurd (Vo _) e,fun K' hk=>h objs K' hk,fun e=>by omega,fun k' e=>by omega,fun k' e=>by
  have:k'=objs.length:=by omega
  subst this;exact .inr ⟨rfl,o1,mk,hm,rfl,rfl,hl,hv,h⟩⟩
theorem yM.two {A:List Obj→KT→Prop}{r:PV}{o:List Obj}(hK:K r o 2) (h:∀ K':KT,K' r o 2→A objs K'):yM A objs K:=⟨r,o,2,hK,fun e=>absurd (by decide) e,h,fun e=>absurd e (by decide),.few (by decide)⟩
def Pk (A:(PV→Prop)→Prop) (K:PV→Prop):Prop:=∃ r,K r∧∀ K':PV→Prop,K' r→A K'
theorem Pk.fac {A:(PV→Prop)→Prop}(h:Pk A (fun r=>K r objs 0)):yM (fun o K=>A (fun r=>K r o 0)) objs K:=by
 obtain ⟨r,h1,h2⟩:=h
 exact .zero h1 fun o K' hk=>h2 _ hk
theorem WG {op:BinOp}{k k':IntKind}{x y:Int}{K:PV→Prop}(h:rV op k k' x y K):Pk (rV op k k' x y) K:=by
 cases op <;> simp only [rV] at h <;> (first
  | (obtain ⟨h1,h2,h3,h4⟩:=h;exact ⟨_,h4,fun _ hk=>⟨h1,h2,h3,hk⟩⟩)
  | (obtain ⟨h1,h2,h3⟩:=h;exact ⟨_,h3,fun _ hk=>⟨h1,h2,hk⟩⟩)
  | (obtain ⟨h1,h2⟩:=h;exact ⟨_,h2,fun _ hk=>⟨h1,hk⟩⟩))
theorem WH {op:BinOp}{x y:List UInt8}{K:PV→Prop}(h:je op x y K):Pk (je op x y) K:=by
 cases op <;> simp only [je] at h <;> (first
  | exact h.elim
  | (obtain ⟨h1,h2⟩:=h;exact ⟨_,h2,fun _ hk=>⟨h1,hk⟩⟩)
  | exact ⟨_,h,fun _ hk=>hk⟩)
theorem WI {ti:aJ}{t:TypeId}{op:BinOp}{x y:PV}{K:PV→Prop}(h:qf P ti t op x y K):Pk (qf P ti t op x y) K:=by
 unfold qf at h
 split at h
 · exact WG h
 · exact WH h
 · obtain ⟨h1,h⟩:=h
   cases op <;> simp only [] at h <;> first | exact h.elim | exact ⟨_,h,fun _ hk=>⟨h1,hk⟩⟩
 · obtain ⟨h1,r,h2,h⟩:=h
   cases op <;> simp only [] at h <;> first | exact h.elim | exact ⟨_,h,fun _ hk=>⟨h1,r,h2,hk⟩⟩
 · obtain ⟨h1,h⟩:=h
   cases op <;> simp only [] at h <;> first | exact h.elim | exact ⟨_,h,fun _ hk=>⟨h1,hk⟩⟩
 · exact h.elim
theorem YR {op:UnOp}{x:PV}{K:PV→Prop}(h:OJ op x K):Pk (OJ op x) K:=by
 unfold OJ at h
 split at h
 · exact ⟨_,h,fun _ hk=>hk⟩
 · exact ⟨_,h.2,fun _ hk=>⟨h.1,hk⟩⟩
 · exact h.elim
theorem Sz {s d:aJ}{x:PV}{K:PV→Prop}(h:nE s d x K):Pk (nE s d x) K:=by
 unfold nE at h
 split at h
 · rename_i e;exact ⟨_,h.2,fun _ hk=>by unfold nE;rw [e];exact ⟨h.1,hk⟩⟩
 · rename_i e;exact ⟨_,h.2,fun _ hk=>by unfold nE;rw [e];exact ⟨h.1,hk⟩⟩
 · rename_i e;exact ⟨_,h.2,fun _ hk=>by unfold nE;rw [e];exact ⟨h.1,hk⟩⟩
 · exact h.elim
theorem EQ {m:Bool}{xs:List PV}{K:PV→Prop}(h:iI m xs K):Pk (iI m xs) K:=by
 unfold iI at h
 split at h
 · exact ⟨_,h.2,fun _ hk=>⟨h.1,hk⟩⟩
 · exact h.elim
theorem YS {c x y:PV}(h:rC c x y objs K):yM (rC c x y) objs K:=by
 unfold rC at h
 split at h
 · exact .zero h fun _ _ hk=>hk
 · exact h.elim
theorem YU {ti:aJ}{p:PV}(h:fF ti p objs K):yM (fF ti p) objs K:=by
 unfold fF at h
 split at h
 · obtain ⟨h1,h2,h3,h4⟩:=h
   exact .zero h4 fun _ _ hk=>⟨h1,h2,h3,hk⟩
 · obtain ⟨o,e,h1,h2,h3,h4,h5,h6,h7,h8,h9⟩:=h
   exact .rd _ h1 h9 fun _ _ he hk=>⟨o,e,he.trans h1,h2,h3,h4,h5,h6,h7,h8,hk⟩
 · exact h.elim
theorem WJ {ti:aJ}{p v:PV}(h:jQ ti p v objs K):yM (jQ ti p v) objs K:=by
 unfold jQ at h
 split at h
 · obtain ⟨o,e,h1,h2,h3,h4,h5,h6,h7,h8,h9,h10⟩:=h
   exact .wr _ _ h1 h10 fun _ _ he hk=>⟨o,e,he.trans h1,h2,h3,h4,h5,h6,h7,h8,h9,hk⟩
 · exact h.elim
theorem wE {t:TypeId}{f:Nat}{X:Nat→aJ→Prop}(h:eH D t f X):∃ off ti,X off ti∧∀ X':Nat→aJ→Prop,X' off ti→eH D t f X':=by
 unfold eH at h
 split at h
 · rename_i fs hk
   obtain ⟨x,h1,h2,h3,h4⟩:=h
   exact ⟨_,_,h4,fun X' hx=>by unfold eH;rw [hk];exact ⟨x,h1,h2,h3,hx⟩⟩
 · exact h.elim
theorem JJ {t:TypeId}{p:PV}{f:Nat}(h:aN D t p f objs K):yM (aN D t p f) objs K:=by
 unfold aN at h
 split at h
 · obtain ⟨off,ti,⟨h1,h2,h3,h4⟩,g⟩:=wE h
   exact .zero h4 fun _ _ hk=>by unfold aN;exact g _ ⟨h1,h2,h3,hk⟩
 · obtain ⟨o,h1,h2,h3,h⟩:=h
   obtain ⟨off,ti,h4,g⟩:=wE h
   exact .rd _ h1 h4 fun _ _ he hk=>⟨o,he.trans h1,h2,h3,g _ hk⟩
 · exact h.elim
theorem WK {t:TypeId}{p:PV}{f:Nat}(h:oP D t p f objs K):yM (oP D t p f) objs K:=by
 unfold oP at h
 split at h
 · obtain ⟨off,ti,⟨h1,h2⟩,g⟩:=wE h
   exact .zero h2 fun _ _ hk=>by unfold oP;exact g _ ⟨h1,hk⟩
 · exact h.elim
theorem JK {t:TypeId}{x i:PV}(h:bq D t x i objs K):yM (bq D t x i) objs K:=by
 unfold bq at h
 split at h <;> (try rename_i hk)
 · rename_i e _ _ _ _ _ hk
   obtain ⟨h1,h2,y,h3,h4,h5⟩:=h
   exact .zero h5 fun _ _ hk'=>by unfold bq;rw [hk];exact ⟨h1,h2,y,h3,h4,hk'⟩
 · rename_i e _ _ _ _ hk
   obtain ⟨h1,h2,o,h3,h4,h5,h6,h7,h8⟩:=h
   exact .rd _ h3 h8 fun _ _ he hk'=>by unfold bq;rw [hk];exact ⟨h1,h2,o,he.trans h3,h4,h5,h6,h7,hk'⟩
 · rename_i m e _ _ _ hk
   obtain ⟨h1,h2,h3,h4,h5,h6,h7⟩:=h
   exact .zero h7 fun _ _ hk'=>by unfold bq;rw [hk];exact ⟨h1,h2,h3,h4,h5,h6,hk'⟩
 · rename_i m e _ _ _ _ _ _ hk
   obtain ⟨h1,h2,h3,o,h4,h5,h6,h7⟩:=h
   exact .rd _ h4 h7 fun _ _ he hk'=>by unfold bq;rw [hk];exact ⟨h1,h2,h3,o,he.trans h4,h5,h6,hk'⟩
 · exact h.elim
theorem WL {t:TypeId}{x i:PV}(h:lS D t x i objs K):yM (lS D t x i) objs K:=by
 unfold lS at h
 split at h <;> (try rename_i hk)
 · obtain ⟨h1,b,h2,h3⟩:=h
   exact .zero h3 fun _ _ hk'=>by unfold lS;rw [hk];exact ⟨h1,b,h2,hk'⟩
 · obtain ⟨h1,h2,h3,h4,h5,h6⟩:=h
   exact .zero h6 fun _ _ hk'=>by unfold lS;rw [hk];exact ⟨h1,h2,h3,h4,h5,hk'⟩
 · exact h.elim
theorem lT {x:Option PV}{d:Int}{X:Int→Prop}(h:dH x d X):∃ n,X n∧∀ X':Int→Prop,X' n→dH x d X':=by
 unfold dH at h
 split at h
 · exact ⟨_,h,fun _ hx=>hx⟩
 · exact ⟨_,h,fun _ hx=>hx⟩
 · exact h.elim
theorem WM {t:TypeId}{x:PV}{lo hi:Option PV}(h:jf D t x lo hi objs K):yM (jf D t x lo hi) objs K:=by
 unfold jf at h
 split at h <;> (try rename_i hk)
 · obtain ⟨l,h,g1⟩:=lT h
   obtain ⟨m,⟨h1,h2,h3,h4⟩,g2⟩:=lT h
   exact .zero h4 fun _ _ hk'=>by unfold jf;rw [hk];exact g1 _ (g2 _ ⟨h1,h2,h3,hk'⟩)
 · obtain ⟨e1,e2,h⟩:=h
   obtain ⟨l,h,g1⟩:=lT h
   obtain ⟨m,⟨h1,h2,h3,h4⟩,g2⟩:=lT h
   exact .zero h4 fun _ _ hk'=>by unfold jf;rw [hk];exact ⟨e1,e2,g1 _ (g2 _ ⟨h1,h2,h3,hk'⟩)⟩
 · obtain ⟨e1,o,e2,e3,e4,e5,e6,h⟩:=h
   obtain ⟨m,⟨h1,h2,h3⟩,g2⟩:=lT h
   exact .wr _ _ e2 h3 fun _ _ he hk'=>by unfold jf;rw [hk];exact ⟨e1,o,he.trans e2,e3,e4,e5,e6,g2 _ ⟨h1,h2,hk'⟩⟩
 · obtain ⟨e1,e2,e3,e4,e5,e6,h⟩:=h
   obtain ⟨l,h,g1⟩:=lT h
   obtain ⟨m,⟨h1,h2,h3,h4⟩,g2⟩:=lT h
   exact .zero h4 fun _ _ hk'=>by unfold jf;rw [hk];exact ⟨e1,e2,e3,e4,e5,e6,g1 _ (g2 _ ⟨h1,h2,h3,hk'⟩)⟩
 · exact h.elim
theorem aaW {t:TypeId}{x:PV}(h:qg D t x objs K):yM (qg D t x) objs K:=by
 unfold qg at h
 split at h <;> (try rename_i hk)
 · exact .zero h fun _ _ hk'=>by unfold qg;rw [hk];exact hk'
 · exact .zero h fun _ _ hk'=>by unfold qg;rw [hk];exact hk'
 · obtain ⟨o,e2,e3,e4,h⟩:=h
   exact .rd _ e2 h fun _ _ he hk'=>by unfold qg;rw [hk];exact ⟨o,he.trans e2,e3,e4,hk'⟩
 · exact h.elim
theorem DL {place:Nat→Option (Nat×Nat)}:∀ {parts:List (Nat×PV)}{cs:List PV}{X:List PV→Prop},oH place cs parts X→∃ cs',X cs'∧∀ X':List PV→Prop,X' cs'→oH place cs parts X'
 | [],cs,_,h=>⟨cs,h,fun _ hx=>hx⟩
 | (_,_)::_,_,_,⟨x,h1,h2,h3,h⟩=>
  let ⟨cs',g1,g2⟩:=DL h
  ⟨cs',g1,fun _ hx=>⟨x,h1,h2,h3,g2 _ hx⟩⟩
theorem WN {t:TypeId}{ps:List (Nat×PV)}(h:bK D t ps objs K):yM (bK D t ps) objs K:=by
 obtain ⟨a1,a2,a3,h⟩:=h
 unfold nN at h
 split at h <;> (try rename_i hk)
 · obtain ⟨h1,h⟩:=h
   obtain ⟨cs,h2,g⟩:=DL h
   exact .zero h2 fun _ _ hk'=>⟨a1,a2,a3,by unfold nN;rw [hk];exact ⟨h1,g _ hk'⟩⟩
 · obtain ⟨h1,h⟩:=h
   obtain ⟨cs,h2,g⟩:=DL h
   exact .zero h2 fun _ _ hk'=>⟨a1,a2,a3,by unfold nN;rw [hk];exact ⟨h1,g _ hk'⟩⟩
 · exact h.elim
theorem G9 {own:Bool}{t:TypeId}{n:Nat}{ps:List (Nat×PV)}(h:bQ D own t n ps objs K):yM (bQ D own t n ps) objs K:=by
 unfold bQ at h
 split at h <;> (try rename_i hk)
 · obtain ⟨h1,h2,h3,h4,h5,h6,h7⟩:=h
   cases own with
   | true=>
    simp only [if_true] at h7
    exact .new (fun n=>.bA n 1) (.inl rfl) _ rfl rfl h7 fun _ _ hk'=>by unfold bQ;rw [hk];exact ⟨h1,h2,h3,h4,h5,h6,hk'⟩
   | false=>
    simp only [Bool.false_eq_true,if_false] at h7
    exact .zero h7 fun _ _ hk'=>by unfold bQ;rw [hk];exact ⟨h1,h2,h3,h4,h5,h6,hk'⟩
 · exact h.elim
theorem JL {t:TypeId}{l c:PV}(h:fI D t l c objs K):yM (fI D t l c) objs K:=by
 unfold fI at h
 split at h <;> (try rename_i hk)
 · obtain ⟨h1,h2,h3,h4,h5,h6,h7,h8,h9⟩:=h
   exact .new (fun n=>.bA n 1) (.inl rfl) _ rfl rfl h9 fun _ _ hk'=>by unfold fI;rw [hk];exact ⟨h1,h2,h3,h4,h5,h6,h7,h8,hk'⟩
 · exact h.elim
theorem YV {t:TypeId}{x:PV}{X:List PV→Bool→Prop}(h:nk D t x objs X):∃ ys q,X ys q∧(∀ X':List PV→Bool→Prop,X' ys q→nk D t x objs X')∧
  (q=false→∀ (d_:List Obj) (X':List PV→Bool→Prop),X' ys q→nk D t x d_ X'):=by
 unfold nk at h
 split at h <;> (try rename_i hk)
 · exact ⟨_,_,h,fun _ hx=>by unfold nk;rw [hk];exact hx,fun _ _ _ hx=>by unfold nk;rw [hk];exact hx⟩
 · obtain ⟨o,h1,h2,h3,h⟩:=h
   exact ⟨_,_,h,fun _ hx=>by unfold nk;rw [hk];exact ⟨o,h1,h2,h3,hx⟩,fun e=>by cases e⟩
 · exact ⟨_,_,h,fun _ hx=>by unfold nk;rw [hk];exact hx,fun _ _ _ hx=>by unfold nk;rw [hk];exact hx⟩
 · exact h.elim
theorem SA {t u:TypeId}{s x:PV}(h:eO D t u s x objs K):yM (eO D t u s x) objs K:=by
 unfold eO at h
 split at h <;> (try rename_i hk)
 · obtain ⟨h1,h2,h3,h4,h⟩:=h
   obtain ⟨ys,q,⟨hy,h⟩,g,g2⟩:=YV h
   split at h
   · rename_i k ver
     obtain ⟨o,e1,e2,e3,e4,e5,e6,e7,e8,e9⟩:=h
     cases q with
     | true=>exact .two e9 fun _ hk'=>by unfold eO;rw [hk];exact ⟨h1,h2,h3,h4,g _ ⟨hy,o,e1,e2,e3,e4,e5,e6,e7,e8,hk'⟩⟩
     | false=>exact .wr _ _ e1 e9 fun _ _ he hk'=>by unfold eO;rw [hk];exact ⟨h1,h2,h3,h4,g2 rfl _ _ ⟨hy,o,he.trans e1,e2,e3,e4,e5,e6,e7,e8,hk'⟩⟩
   · obtain ⟨e1,e2,e3,e4,e5,e6⟩:=h
     cases q with
     | true=>exact .two e6 fun _ hk'=>by unfold eO;rw [hk];exact ⟨h1,h2,h3,h4,g _ ⟨hy,e1,e2,e3,e4,e5,hk'⟩⟩
     | false=>exact .new (fun n=>.bA n 1) (.inl rfl) _ rfl rfl e6 fun _ _ hk'=>by unfold eO;rw [hk];exact ⟨h1,h2,h3,h4,g2 rfl _ _ ⟨hy,e1,e2,e3,e4,e5,hk'⟩⟩
   · obtain ⟨e1,e2,e3⟩:=h
     cases q with
     | true=>exact .two e3 fun _ hk'=>by unfold eO;rw [hk];exact ⟨h1,h2,h3,h4,g _ ⟨hy,e1,e2,hk'⟩⟩
     | false=>exact .new (fun n=>.bA n 1) (.inl rfl) _ rfl rfl e3 fun _ _ hk'=>by unfold eO;rw [hk];exact ⟨h1,h2,h3,h4,g2 rfl _ _ ⟨hy,e1,e2,hk'⟩⟩
   · exact h.elim
 · exact h.elim
theorem Mt {x:PV}(h:dS x objs K):yM (dS x) objs K:=by
 unfold dS at h
 split at h
 · exact .zero h fun _ _ hk=>hk
 · obtain ⟨o,h1,h2,h3,h⟩:=h
   exact .rd _ h1 h fun _ _ he hk=>⟨o,he.trans h1,h2,h3,hk⟩
 · exact h.elim
theorem YW {s t:TypeId}{x:PV}(h:ko D s t x objs K):yM (ko D s t x) objs K:=by
 by_cases hx:∃ k ver,x=.bA k ver
 · obtain ⟨k,ver,rfl⟩:=hx
   obtain ⟨ob,bs,h1,h2,h3,h4,h5,h6,h7,h8,h9⟩:=h
   exact .rd k h1 h9 fun d_ K' he hk=>⟨ob,bs,by rw [he];exact h1,h2,h3,h4,h5,h6,h7,h8,hk⟩
 · have e:∀ (objs:List Obj) (K:KT),ko D s t x objs K=nE (D s) (D t) x fun r=>K r objs 0:=fun objs K=>GX fun k ver e=>hx ⟨k,ver,e⟩
   rw [e] at h
   have e2:ko D s t x=fun (o:List Obj) (K:KT)=>nE (D s) (D t) x fun r=>K r o 0:=by funext o K;exact e o K
   rw [e2]
   exact (Sz h).fac
theorem FB {f:FuncId}{args:List PV}{r:PV}{o:List Obj}(h:mI P f args objs r o 0) (d_:List Obj):o=objs∧mI P f args d_ r d_ 0:=by
 cases h with
 | pure _ ha h=>exact ⟨rfl,.pure _ ha h⟩
theorem Pm {f:FuncId}{args:List PV}{r:PV}{o:List Obj}{t:Nat}(h:mI P f args objs r o t) (ht:co t≠2):o=objs:=by
 cases h with
 | pure _ ha h=>rfl
 | made _ _ _ _ _=>exact absurd (by decide) ht
 | used _ _ _=>exact absurd (by decide) ht
 | Vn _ _ _ _ _ _=>exact absurd (by decide) ht
 | Vh _ _ _ _ _ _ _ _=>exact absurd (by decide) ht
 | acP _ _ _ _ _=>rfl
theorem YX {f:PV}{args:List PV}(h:G6 P f args objs K):yM (G6 P f args) objs K:=by
 unfold G6 at h
 split at h
 · obtain ⟨r,o,t,hc,hK⟩:=h
   refine ⟨r,o,t,hK,Pm hc,fun _ hk=>⟨r,o,t,hc,hk⟩,?_,.few (by cases hc <;> decide)⟩
   intro ht d_ K' hk
   subst ht
   exact ⟨r,d_,0,(FB hc d_).2,hk⟩
 · exact h.elim
theorem Pn {t:TypeId}(h:lD D t objs K):yM (lD D t) objs K:=by
 unfold lD at h
 split at h
 · rename_i k e hk
   exact .new (fun n=>.uw n 1) (.inr (.inr rfl)) _ rfl rfl h fun _ _ hk'=>by unfold lD;rw [hk];exact hk'
 · exact h.elim
theorem SB {t:TypeId}{x ix:PV}{ok:Bool}(h:jT D t x ix ok objs K):yM (jT D t x ix ok) objs K:=by
 unfold jT at h
 split at h
 · rename_i kt et k ver hk
   obtain ⟨h1,h2,o,h3,h4,h5,h6,m,h7,h8⟩:=h
   exact .rd _ h3 h8 fun _ _ he hk'=>by unfold jT;rw [hk];exact ⟨h1,h2,o,he.trans h3,h4,h5,h6,m,h7,hk'⟩
 · exact h.elim
theorem zb {t:TypeId}{x y z:PV}(h:gX D t x y z objs K):yM (gX D t x y z) objs K:=by
 unfold gX at h
 split at h
 · rename_i kt et k ver hk
   obtain ⟨h1,h2,h2',o,h3,h4,h5,h6,m,h7,h8⟩:=h
   exact .wr _ _ h3 h8 fun _ _ he hk'=>by unfold gX;rw [hk];exact ⟨h1,h2,h2',o,he.trans h3,h4,h5,h6,m,h7,hk'⟩
 · exact h.elim
theorem Vq {own:Bool}{op:Op}(h:Jt P D own ev objs op K):yM (fun o K=>Jt P D own ev o op K) objs K:=by
 unfold Jt at h
 split at h
 · exact .zero h fun _ _ hk=>hk
 · exact .zero h fun _ _ hk=>hk
 · exact YS h
 · obtain ⟨h1,h2,h3,h4⟩:=h
   exact .new (fun n=>.bR n 1 0 0) (.inr (.inl rfl)) _ rfl rfl h4 fun _ _ hk=>⟨h1,h2,h3,hk⟩
 · obtain ⟨h1,h2,h3,h4⟩:=h
   exact .new (fun n=>.bR n 1 0 0) (.inr (.inl rfl)) _ rfl rfl h4 fun _ _ hk=>⟨h1,h2,h3,hk⟩
 · exact WN h
 · exact G9 h
 · exact YU h
 · exact WJ h
 · exact Mt h
 · exact (WI h).fac
 · exact (YR h).fac
 · exact YW h
 · obtain ⟨h1,h2,h3⟩:=h
   exact .zero h3 fun _ _ hk=>⟨h1,h2,hk⟩
 · exact JL h
 · exact WM h
 · exact JJ h
 · exact WK h
 · exact JK h
 · exact WL h
 · rename_i x i
   unfold bU at h
   split at h
   · rename_i cs e
     obtain ⟨p,h1,h2⟩:=h
     exact .zero h2 fun _ _ hk=>by show bU (ev x) i _ _;unfold bU;rw [e];exact ⟨p,h1,hk⟩
   · exact h.elim
 · rename_i b args ts
   unfold fG at h
   split at h
   · rename_i t0 x0 e1 e2
     have hf:=aaW h
     have e':(fun (o:List Obj) (K:KT)=>fG D .len ts.toList args.toList ev o K)=qg D t0 (ev x0):=by
      funext o K;unfold fG;rw [e1,e2]
     show yM (fun (o:List Obj) (K:KT)=>fG D .len ts.toList args.toList ev o K) objs _
     rw [e'];exact hf
   · rename_i t0 u0 s0 x0 e1 e2
     have hf:=SA h
     have e':(fun (o:List Obj) (K:KT)=>fG D .append ts.toList args.toList ev o K)=eO D t0 u0 (ev s0) (ev x0):=by
      funext o K;unfold fG;rw [e1,e2]
     show yM (fun (o:List Obj) (K:KT)=>fG D .append ts.toList args.toList ev o K) objs _
     rw [e'];exact hf
   · obtain ⟨r,g1,g2⟩:=EQ h
     exact .zero g1 fun o K' hk=>g2 (fun r=>K' r o 0) hk
   · obtain ⟨r,g1,g2⟩:=EQ h
     exact .zero g1 fun o K' hk=>g2 (fun r=>K' r o 0) hk
   · exact h.elim
 · exact YX h
 · exact Pn h
 · exact SB h
 · exact zb h
 · exact zb h
 · exact h.elim
theorem xP {own:Bool}{op:Op}{ev':Operand→PV}(he:∀ x ∈ op.operands,ev x=ev' x) (h:Jt P D own ev objs op K):Jt P D own ev' objs op K:=by
 have hmap:∀ (xs:Array Operand),(∀ x ∈ xs,ev x=ev' x)→xs.toList.map ev=xs.toList.map ev':=
  fun xs hx=>List.map_congr_left fun x hm=>hx x (by simpa using hm)
 have abQ:∀ (ps:Array (Nat×Operand)),(∀ x ∈ ps.toList,ev x.2=ev' x.2)→ps.toList.map (fun x=>(x.1,ev x.2))=ps.toList.map (fun x=>(x.1,ev' x.2)):=
  fun ps hx=>List.map_congr_left fun x hm=>by rw [hx x hm]
 unfold Jt at h ⊢
 split at h <;> (try simp only [Op.operands,Call.operands] at he)
 case h_1 x=>rw [← he x (by simp)];exact h
 case h_2 x=>rw [← he x (by simp)];exact h
 case h_3 c x y=>rw [← he c (by simp),← he x (by simp),← he y (by simp)];exact h
 case h_4=>exact h
 case h_5 t x=>rw [← he x (by simp)];exact h
 case h_6 t ps=>rw [← abQ ps (fun x hx=>he x.2 (by simp;exact ⟨x.1,by simpa using hx⟩))];exact h
 case h_7 t n ps=>rw [← abQ ps (fun x hx=>he x.2 (by simp;exact ⟨x.1,by simpa using hx⟩))];exact h
 case h_8 t x=>rw [← he x (by simp)];exact h
 case h_9 t x y=>rw [← he x (by simp),← he y (by simp)];exact h
 case h_10 x=>rw [← he x (by simp)];exact h
 case h_11 b t x y u=>rw [← he x (by simp),← he y (by simp)];exact h
 case h_12 u t x=>rw [← he x (by simp)];exact h
 case h_13 s t x=>rw [← he x (by simp)];exact h
 case h_14 f first cap=>rw [← hmap first (fun x hx=>he x (by simp [hx])),← hmap cap (fun x hx=>he x (by simp [hx]))];exact h
 case h_15 t l c=>rw [← he l (by simp),← he c (by simp)];exact h
 case h_16 t x lo hi=>
  rw [← he x (by simp)]
  have e1:lo.map ev=lo.map ev':=by cases lo <;> simp;exact he _ (by simp)
  have e2:hi.map ev=hi.map ev':=by cases hi <;> simp;exact he _ (by simp)
  rw [← e1,← e2];exact h
 case h_17 t x f=>rw [← he x (by simp)];exact h
 case h_18 t x f=>rw [← he x (by simp)];exact h
 case h_19 t x i=>rw [← he x (by simp),← he i (by simp)];exact h
 case h_20 t x i=>rw [← he x (by simp),← he i (by simp)];exact h
 case h_21 x i=>rw [← he x (by simp)];exact h
 case h_22 b args ts=>
  have ha:∀ x ∈ args,ev x=ev' x:=fun x hx=>he x (by simpa using hx)
  unfold fG at h ⊢
  split at h
  · rename_i t x e1 e2
    rw [← ha x (by have:x ∈ args.toList:=by rw [e2];simp
                   simpa using this)]
    exact h
  · rename_i t u s x e1 e2
    rw [← ha s (by have:s ∈ args.toList:=by rw [e2];simp
                   simpa using this),← ha x (by have:x ∈ args.toList:=by rw [e2];simp
                                                simpa using this)]
    exact h
  · rw [← hmap args ha];exact h
  · rw [← hmap args ha];exact h
  · exact h.elim
 case h_23 f args ts=>
  rw [← he f (by simp),← hmap args (fun x hx=>he x (by simp [hx]))];exact h
 case h_24=>exact h
 case h_25 t x ix ok=>rw [← he x (by simp),← he ix (by simp)];exact h
 case h_26 t x k v=>rw [← he x (by simp),← he k (by simp),← he v (by simp)];exact h
 case h_27 t x k v=>rw [← he x (by simp),← he k (by simp),← he v (by simp)];exact h
 case h_28=>exact h.elim
end Lp
namespace Lp
open Go
def qW (base ak:Nat→Prop) (V:Wz→Prop) (S:St) (blk:Nat→Option Nat) (a:Act) (w:World):Prop:=∃ w0,V w0∧Rel base ak w0 S blk a w
abbrev Env:=(Nat→Prop)→(Nat→Prop)→(Wz→Prop)→Prop
def PW (P:Program) (l:Option Nat) (E:Env) (c:Code) (Q:Exit→St→Prop) (S:St):Prop:=
 ∀ (base ak:Nat→Prop) (V:Wz→Prop),E base ak V→∀ (blk:Nat→Option Nat) (a:Act) (w:World),qW base ak V S blk a w→
  c.wpIn (F6 l) 0 P (fun e a' w'=>∃ S' ay,Q e S'∧qW base ak V S' ay a' w') a w
def Weak (m:Nat) (S S':St):Prop:=∀ (base ak:Nat→Prop) (w0:Wz) (blk:Nat→Option Nat) (a:Act) (w:World),w0.nx≤m→Rel base ak w0 S blk a w→∃ ay,Rel base ak w0 S' ay a w
def thenS (next:St→Prop) (Q:Exit→St→Prop):Exit→St→Prop
 | .normal,S=>next S
 | e,S=>Q e S
def rX (id:Nat) (Q:Exit→St→Prop):Exit→St→Prop
 | .exit id',S=>if id'=id then Q .normal S else Q (.exit id') S
 | e,S=>Q e S
variable {P:Program}{D:TypeId→aJ}{l:Option Nat}{E:Env}{Q:Exit→St→Prop}{S:St}
theorem PW.mono {c:Code}{Q':Exit→St→Prop}(h:PW P l E c Q S) (hq:∀ e S,Q e S→Q' e S):PW P l E c Q' S:=
 fun base ak V hE blk a w R=>wpIn_mono (h base ak V hE blk a w R) fun e _ _ ⟨S',ay,h1,h2⟩=>⟨S',ay,hq e S' h1,h2⟩
theorem PW.weak {c:Code}{S':St}{m:Nat}(hE:∀ base ak V,E base ak V→∀ w0,V w0→w0.nx≤m) (hw:Weak m S S') (h:PW P l E c Q S'):PW P l E c Q S:=
 fun base ak V hE' blk a w ⟨w0,hV,R⟩=>let ⟨ay,R'⟩:=hw base ak w0 blk a w (hE base ak V hE' w0 hV) R;h base ak V hE' ay a w ⟨w0,hV,R'⟩
theorem PW.skip (h:Q .normal S):PW P l E .skip Q S:=fun _ _ _ _ blk _ _ R=>wpIn_skip ⟨S,blk,h,R⟩
theorem PW.exit {id:Nat}(h:Q (.exit id) S):PW P l E (.exit id) Q S:=fun _ _ _ _ blk _ _ R=>wpIn_exit ⟨S,blk,h,R⟩
theorem PW.ret (h:Q .ret S):PW P l E .ret Q S:=fun _ _ _ _ blk _ _ R=>wpIn_ret ⟨S,blk,h,R⟩
theorem PW.seq {x y:Code}(h:PW P l E x (thenS (fun S'=>PW P l E y Q S') Q) S):PW P l E (.seq x y) Q S:=by
 intro base ak V hE blk a w R
 refine wpIn_seq (wpIn_mono (h base ak V hE blk a w R) ?_)
 rintro e a' w' ⟨S',ay,h1,h2⟩
 cases e with
 | normal=>exact h1 base ak V hE ay a' w' h2
 | _=>exact ⟨S',ay,h1,h2⟩
theorem PW.block {id:Nat}{c:Code}(h:PW P l E c (rX id Q) S):PW P l E (.block id c) Q S:=by
 intro base ak V hE blk a w R
 refine wpIn_block (wpIn_mono (h base ak V hE blk a w R) ?_)
 rintro e a' w' ⟨S',ay,h1,h2⟩
 cases e with
 | exit id'=>
  simp only [Exit.inBlock,rX] at h1 ⊢
  split
  · rename_i e;rw [if_pos e] at h1;exact ⟨S',ay,h1,h2⟩
  · rename_i e;rw [if_neg e] at h1;exact ⟨S',ay,h1,h2⟩
 | _=>exact ⟨S',ay,h1,h2⟩
def ze (v:PV) (X Y:Prop):Prop:=
 match v with
 | .bool b=>(b=true→X)∧(b=false→Y)
 | _=>False
theorem PW.cond {c:Operand}{x y:Code}(h:ze (S.ev c) (PW P l E x Q S) (PW P l E y Q S)):PW P l E (.cond c x y) Q S:=by
 intro base ak V hE blk a w R
 have hc:=R.choose_spec.2.ev c
 unfold ze at h
 split at h
 · rename_i b e
   rw [e] at hc
   exact wpIn_cond_split hc.bool (fun hb=>h.1 hb base ak V hE blk a w R) (fun hb=>h.2 hb base ak V hE blk a w R)
 · exact h.elim
def oQ (ops:List Oper) (g:Option (Nat×Bool)) (S:St) (X Y:St→Prop):Prop:=
 match g with
 | none=>X S
 | some (j,want)=>
  match (ops[j]?).bind (·.dst) with
  | none=>False
  | some d=>
   match S.tmps.getD d .dead with
   | .bool b=>(b=want→X { S with tmps:=S.tmps.set d (.bool want) })∧(b=!want→Y { S with tmps:=S.tmps.set d (.bool !want) })
   | .bP []=>Y S
   | _=>False
def qj (P:Program) (D:TypeId→aJ) (own:Nat→Bool) (ops:List Oper):List Oper→Nat→St→List Nat→(St→List Nat→Prop)→Prop
 | [],_,S,ts,K=>K S ts
 | o::rest,i,S,ts,K=>
  oQ ops o.guard S
   (fun S=>Jt P D (own i) S.ev S.objs o.op fun r objs' t=>qj P D own ops rest (i+1) (St.put ⟨S.tmps,objs'⟩ o.dst r) (ts++[t]) K)
   (fun S=>qj P D own ops rest (i+1) (S.put o.dst (.bP [])) (ts++[0]) K)
theorem xQ (w:World) (ok:Nat→Prop) (objs:List Obj) (blk:Nat→Option Nat):aZ w ok objs blk (.bP []) undef:=⟨[],rfl,rfl,fun _ _ _ h=>by simp at h⟩
theorem WO {base ak:Nat→Prop}{w0:Wz}{blk:Nat→Option Nat}{a:Act}{w:World}(R:Rel base ak w0 S blk a w) (d:Nat) :
  aZ w (dn base S.objs blk) S.objs blk (S.tmps.getD d .dead) (a.tmps.getD d undef):=R.ev (.tmp d)
theorem BA {xs:List PV}{d:Nat}{p:PV}(h:xs.getD d .dead=p) (hp:p≠.dead):xs.set d p=xs:=by
 by_cases hd:d<xs.length
 · rw [List.getD_eq_getElem?_getD,List.getElem?_eq_getElem hd,Option.getD_some] at h
   subst h
   exact List.set_getElem_self hd
 · rw [List.getD_eq_getElem?_getD,List.getElem?_eq_none (Nat.le_of_not_lt hd),Option.getD_none] at h
   exact absurd h.symm hp
theorem wF {ops:List Oper}{g:Option (Nat×Bool)}{X Y:St→Prop}{base ak:Nat→Prop}{w0:Wz}{blk:Nat→Option Nat}{a:Act}{w:World}
  (R:Rel base ak w0 S blk a w) (h:oQ ops g S X Y) (o:Oper) (ho:o.guard=g) :
  (Region.wanted o (yielded ops.toArray a.tmps)=true∧X S)∨(Region.wanted o (yielded ops.toArray a.tmps)=false∧Y S):=by
 unfold oQ at h
 split at h
 · exact .inl ⟨by simp [Region.wanted,ho],h⟩
 · rename_i j want
   split at h
   · exact h.elim
   · rename_i d hd
     have hy:yielded ops.toArray a.tmps j=(match a.tmps[d]? with | some (.bool b)=>some b | _=>none):=by
      have hd':(ops.toArray[j]?).bind (·.dst)=some d:=by simpa using hd
      unfold yielded
      rw [hd']
      rfl
     have hr:=WO R d
     split at h
     · rename_i b hb
       rw [hb] at hr
       have hv:=hr.bool
       have hlt:d<a.tmps.size:=by
        rcases Nat.lt_or_ge d a.tmps.size with hh | hh
        · exact hh
        · rw [Array.getD_eq_getD_getElem?,Array.getElem?_eq_none hh] at hv
          simp [undef] at hv
       have hg:a.tmps[d]?=some (.bool b):=by
        rw [Array.getD_eq_getD_getElem?,Array.getElem?_eq_getElem hlt,Option.getD_some] at hv
        rw [Array.getElem?_eq_getElem hlt,hv]
       rw [hg] at hy
       simp only [] at hy
       by_cases hbw:b=want
       · left
         have:=h.1 hbw
         rw [BA (by rw [hb,hbw]) (by simp)] at this
         exact ⟨by simp [Region.wanted,ho,hy,hbw],this⟩
       · right
         have hbn:b=!want:=by cases b <;> cases want <;> simp_all
         have:=h.2 hbn
         rw [BA (by rw [hb,hbn]) (by simp)] at this
         exact ⟨by simp [Region.wanted,ho,hy,hbn],this⟩
     · rename_i hb
       rw [hb] at hr
       right
       obtain ⟨vs,hv,hl⟩:=hr
       have hvs:vs=[]:=List.eq_nil_of_length_eq_zero hl.1.symm
       subst hvs
       have hn:(match a.tmps[d]? with | some (.bool b)=>some b | _=>none)=none:=by
        rw [Array.getD_eq_getD_getElem?] at hv
        cases hx:a.tmps[d]? with
        | none=>rfl
        | some v=>rw [hx,Option.getD_some] at hv;subst hv;rfl
       rw [hn] at hy
       exact ⟨by simp [Region.wanted,ho,hy],h⟩
     · exact h.elim
theorem wG {own:Nat→Bool}{ops:List Oper}{Qm:Exit→Act→World→Prop}(hD:∀ t,iY P t (D t)) (base ak:Nat→Prop) (w0:Wz) :
  ∀ (qP:List Oper) (k:Nat) (S:St) (ts:List Nat) (K:St→List Nat→Prop) (blk:Nat→Option Nat) (a:Act) (w:World),(∀ j,qP[j]?=ops[k+j]?)→qj P D own ops qP k S ts K→Rel base ak w0 S blk a w→
   (∀ S' ts' ay a' w',K S' ts'→Rel base ak w0 S' ay a' w'→Qm .normal a' w')→wpOpsIn (F6 l) 0 P ops.toArray Qm (List.range' k qP.length) a w
 | [],k,S,ts,K,blk,a,w,_,h,R,hq=>hq S ts blk a w h R
 | o::qP,k,S,ts,K,blk,a,w,hl,h,R,hq=>by
  have h0:ops.toArray[k]?=some o:=by simpa using (hl 0).symm
  have hl':∀ j,qP[j]?=ops[k+1+j]?:=fun j=>by have:=hl (j+1);simpa [Nat.add_assoc,Nat.add_comm 1 j] using this
  simp only [List.length_cons,List.range'_succ,wpOpsIn,h0]
  unfold qj at h
  rcases wF R h o rfl with ⟨hw,hx⟩ | ⟨hw,hy⟩
  · rw [if_pos hw]
    exact Bz l hD R hx fun r objs' t v w' ay hK R' hr=>wG hD base ak w0 qP (k+1) _ _ K ay _ w' hl' hK (R'.put hr o.dst) hq
  · rw [if_neg (by rw [hw];simp)]
    exact ⟨fun _ _=>trivial,wG hD base ak w0 qP (k+1) _ _ K blk _ w hl' hy (R.put (xQ _ _ _ _) o.dst) hq⟩
theorem PW.region {id:Nat}{ops:List Oper}(own:Nat→Bool) (hD:∀ t,iY P t (D t)) (h:qj P D own ops ops 0 S [] fun S' _=>Q .normal S'):PW P l E (.region id ops.toArray false) Q S:=by
 intro base ak V hE blk a w ⟨w0,hV,R⟩
 refine wpIn_region ?_
 have:=wG (l:=l) (Qm:=fun e a' w'=>∃ S' ay,Q e S'∧qW base ak V S' ay a' w') hD base ak w0 ops 0 S [] _ blk a w (fun j=>by simp) h R (fun S' ts' ay a' w' hK R'=>⟨S',ay,hK,w0,hV,R'⟩)
 rw [List.range_eq_range']
 simpa using this
end Lp
