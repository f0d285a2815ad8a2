/-
  Part 2 of what the statement rests on: LpK, LpL, LpM. No condition.
-/
import Derived.Test.YtgfdogdnlgfcpaaGreatDoorLp1
import Derived.RangeFuncCalls
import Derived.OrdersIn

set_option linter.all false
set_option maxHeartbeats 8000000
set_option maxRecDepth 100000
namespace Lp
open Go
def Enters(P:Program)(f:FuncId):Prop:=∃fn,P.funcs[f]?=some fn∧(fn.name== "runtime.NumGoroutine")=false∧fn.body.isNone=false
def ai(P:Program)(f:FuncId)(args:List PV)(objs:List Obj)(r:PV)(objs':List Obj):Prop:=
 Enters P f∧
 ∀(w:World) (blk:Nat→Option Nat) (vs:List Value) (base:Nat→Prop),(tO.holds w.heap∧∀b,w.heap.size≤b→base b)→
  dP base (λb=>b<w.heap.size∧aZ objs blk b) objs blk w→dB (aY w (bZ base objs blk) objs blk) args vs→
  Calls P f ⟨vs⟩ w λe w'=>∃v aA,e=.returned v∧dP base (λb=>b<w.heap.size∧aZ objs blk b) objs' aA w'∧
   aY w' (bZ base objs' aA) objs' aA r v∧(∀b,b<w.heap.size→aZ objs blk b→w'.heap[b]?=w.heap[b]?)∧w.heap.size≤w'.heap.size∧Sm w w'
def PV.rq (n:Nat):PV→PV
 | .bO k ver=>.bO (k+n) ver
 | .bP k ver i f=>.bP (k+n) ver i f
 | .mD k ver=>.mD (k+n) ver
 | p=>p
def PV.shift (n:Nat):PV→PV
 | .fn f a c=>.fn f (a.map (.rq n)) (c.map (.rq n))
 | .bY cs=>.bY (cs.map (.rq n))
 | .agg cs=>.agg (cs.map (.rq n))
 | p=>p.rq n
def PV.AL:PV→Bool
 | .int .. | .bool _ | .str _ | .Cx | .ET | .IX | .IY | .sl _ [] (some true)=>true
 | _=>false
def PV.flat:PV→Bool
 | .bY cs=>cs.all PV.AL
 | p=>p.AL
def fI(objs:List Obj):Prop:=∀o∈objs,∀x∈o.xs,∀p∈x.cells,p.ref=false
def agk(objs:List Obj)(p:PV)(p':PV):Prop:=
 match p with
 | .bO k ver=>∃o,objs[k]?=some o∧o.live=true∧o.ver=ver∧(∀x∈o.xs,∀c∈x.cells,c.ref=false)∧p'=.sl o.sz o.xs none
 | .bP k ver i f=>∃o e,objs[k]?=some o∧o.live=true∧o.ver=ver∧o.xs[i]?=some e∧f=0∧(∀c∈e.cells,c.ref=false)∧p'=.addr e
 | p=>p.pure=true∧p'=p
def QW(objs:List Obj):List PV→List PV→Prop
 | [],[]=>True
 | p::ps,q::qs=>agk objs p q∧QW objs ps qs
 | _,_=>False
def PV.atom:PV→Bool
 | .int .. | .bool _ | .str _=>true
 | _=>false
def Xl(P:Program)(f:FuncId)(args:List PV)(objs:List Obj)(r:PV)(objs':List Obj):Prop:=
 Enters P f∧objs'.length=objs.length∧
 ∀(base av:Nat→Prop) (w0:Wz) (tmps:List PV) (blk:Nat→Option Nat) (a:Act) (w:World) (vs:List Value),Rel base av w0 ⟨tmps,objs⟩ blk a w→
  dB (aY w (bZ base objs blk) objs blk) args vs→
  Calls P f ⟨vs⟩ w λe w'=>∃v aA,e=.returned v∧Rel base av w0 ⟨tmps,objs'⟩ aA a w'∧aY w' (bZ base objs' aA) objs' aA r v
inductive nJ (P:Program) (f:FuncId) (args:List PV) (objs:List Obj):PV→List Obj→Nat→Prop
 | pure (r:PV) (hargs:args.all PV.pure=true) (h:ai P f args [] r []):nJ P f args objs r objs 0
 | made (r:PV) (o:Obj) (hargs:args.all PV.pure=true) (hnew:fI [o]) (h:ai P f args [] r [o]):nJ P f args objs (r.shift objs.length) (objs++[o]) 2
 | used (r:PV) (objs':List Obj) (h:Xl P f args objs r objs'):nJ P f args objs r objs' 2
 | aaQ (ver:Nat) (o:Obj) (args':List PV) (hargs:QW objs args args') (hnew:∀x∈o.xs,∀p∈x.cells,p.atom=true) (h:ai P f args' [] (.bO 0 ver) [o]):nJ P f args objs (.bO objs.length ver) (objs++[o]) 2
 | sM (ver:Nat) (q:PV) (o:Obj) (args':List PV) (hargs:QW objs args args') (hnew:∀x∈o.xs,∀p∈x.cells,p.atom=true) (hq:q.atom=true) (h:ai P f args' [] (.bY [.bO 0 ver,q]) [o]):nJ P f args objs (.bY [.bO objs.length ver,q]) (objs++[o]) 2
 | afd (r:PV) (args':List PV) (hargs:QW objs args args') (hr:r.flat=true) (h:ai P f args' [] r []):nJ P f args objs r objs 1
def Jc(P:Program)(f:PV)(args:List PV)(objs:List Obj)(K:KT):Prop:=
 match f with
 | .fn g first cap=>∃r objs' t,nJ P g (first++args++cap) objs r objs' t∧K r objs' t
 | _=>False
def fT(D:TypeId→aH)(b:Builtin)(ts:List TypeId)(args:List Operand)(ev:Operand→PV)(objs:List Obj)(K:KT):Prop:=
 match b,ts,args with
 | .len,[t],[x]=>qZ D t (ev x) objs K
 | .append,[t,u],[s,x]=>eB D t u (ev s) (ev x) objs K
 | .max,_,xs=>jf true (xs.map ev) λr=>K r objs 0
 | .min,_,xs=>jf false (xs.map ev) λr=>K r objs 0
 | _,_,_=>False
def KF(P:Program)(D:TypeId→aH)(own:Bool)(ev:Operand→PV)(objs:List Obj)(op:Op)(K:KT):Prop:=
 match op with
 | .move x | .assign x=>K (ev x) objs 0
 | .pick c x y=>sP (ev c) (ev x) (ev y) objs K
 | .alloc t=>tQ t (D t) objs K
 | .box t x=>KN t (D t) (ev x) objs K
 | .build t ps=>bM D t (ps.toList.map λx=>(x.1,ev x.2)) objs K
 | .buildSlice t n ps=>bW D own t n (ps.toList.map λx=>(x.1,ev x.2)) objs K
 | .load t x=>fQ (D t) (ev x) objs K
 | .store t x y=>kK (D t) (ev x) (ev y) objs K
 | .nilCheck x=>dU (ev x) objs K
 | .binOp b t x y _=>pM P (D t) t b (ev x) (ev y) λr=>K r objs 0
 | .unOp u _ x=>Qu u (ev x) λr=>K r objs 0
 | .convert s t x=>kZ D s t (ev x) objs K
 | .makeFunc (.func f) first cap=>kH f (first.toList.map ev) (cap.toList.map ev) objs K
 | .makeSlice t l c=>fZ D t (ev l) (ev c) objs K
 | .slice t x lo hi none=>jJ D t (ev x) (lo.map ev) (hi.map ev) objs K
 | .fieldAddr t x f=>aK D t (ev x) f objs K
 | .field t x f=>qa D t (ev x) f objs K
 | .indexAddr t x i=>bC D t (ev x) (ev i) objs K
 | .index t x i=>mH D t (ev x) (ev i) objs K
 | .extract x i=>bq (ev x) i objs K
 | .call { callee:=.builtin b,args,argTypes }=>fT D b argTypes.toList args.toList ev objs K
 | .call { callee:=.value f,args,.. }=>Jc P (ev f) (args.toList.map ev) objs K
 | .makeMap t none=>l9 D t objs K
 | .lookup t x ix ok=>mF D t (ev x) (ev ix) ok objs K
 | .mapUpdate t x k v=>gW D t (ev x) (ev k) (ev v) objs K
 | .insert t x k v=>gW D t (ev x) (ev k) (ev v) objs K
 | .range t x=>vW D t (ev x) objs K
 | .entry x=>vX (ev x) objs K
 | _=>False
section
variable {P:Program}{base av:Nat→Prop}{w0:Wz}{S:St}{blk:Nat→Option Nat}{a:Act}{w:World}{D:TypeId→aH}
theorem YC{f:FuncId}{args:Array Value}{R:Ending→World→Prop}(h:Calls P f args w R)(l:Option Nat):CallsIn (GZ l) 0 P f args w R:=by
 have h':CallsIn Fence.wide 0 P f args w R:=callsIn_wide.2 h
 cases l with
 | none=>exact h'
 | some l=>exact h'.inRound l
theorem dM.qi {ok:Nat→Prop}{p:PV}{v:Value}(h:dM w ok p v){ok':Nat→Prop}(hok:∀b,b<w.heap.size→ok b→ok' b):dM w ok' p v:=
 h.mono (Nat.le_refl _) hok (λ_ _ _ h=>h)
theorem MS{w':World}{ok ok':Nat→Prop}{p:PV}{v:Value}(hp:p.AL=true)(h:dM w ok p v):dM w' ok' p v:=by
 cases h with
 | sl sz xs q hq=>
  exfalso
  unfold PV.AL at hp
  split at hp<;>first | (cases hp;done) | skip
  all_goals first | (rename_i e;cases e;done) | (rename_i e;injection e with _ _ e3;exact hq e3) | skip
 | MH sz q hq=>
  exfalso
  unfold PV.AL at hp
  split at hp<;>first | (cases hp;done) | skip
  all_goals first | (rename_i e;cases e;done) | (rename_i e;injection e with _ _ e3;exact hq e3) | skip
 | slnil sz q hq=>exact .slnil sz q hq
 | int=>exact .int _ _
 | bool=>exact .bool _
 | str=>exact .str _
 | Cx=>exact .Cx
 | ET=>exact .ET
 | IX=>exact .IX
 | IY=>exact .IY
 | _=>simp[PV.AL]at hp
theorem MU{p:PV}(h:p.AL=true):p.ref=false:=by
 cases p<;>first | rfl | (simp[PV.AL]at h)
theorem aaR{ok ok':Nat→Prop}{objs objs':List Obj}{blk aA:Nat→Option Nat}{w':World}{r:PV}{v:Value}(hr:r.flat=true)(h:aY w ok objs blk r v):aY w' ok' objs' aA r v:=by
 cases r with
 | bY cs=>
  obtain⟨vs,rfl,h1,h2⟩:=h
  refine⟨vs,rfl,h1,λi p u hp hu=>?_⟩
  have hf:=List.all_eq_true.1 hr p (List.mem_of_getElem? hp)
  exact .aM (MS hf ((h2 i p u hp hu).Ct (MU hf)))
 | fn f a c=>simp[PV.flat,PV.AL]at hr
 | agg cs=>simp[PV.flat,PV.AL]at hr
 | _=>
  simp only[PV.flat]at hr
  exact .aM (MS hr (bJ.Ct (w:=w) (ok:=ok) (objs:=objs) (blk:=blk) h (MU hr)))
theorem adi(objs:List Obj)(o:Obj):(objs++[o])[objs.length]?=some o:=by simp
def uK(base:Nat→Prop)(S:St)(blk:Nat→Option Nat)(w:World)(b:Nat):Prop:=bZ base S.objs blk b∨w.heap.size≤b
theorem eD(blk:Nat→Option Nat)(b:Nat):aZ [] blk b:=λk o h=>by simp at h
theorem NR{objs':List Obj}{aA:Nat→Option Nat}(R:Rel base av w0 S blk a w){b:Nat}(h:bZ (uK base S blk w) objs' aA b):bZ base S.objs blk b:=by
 rcases h.1 with h | h
 ·exact h
 ·refine⟨R.bs b (Nat.le_trans R.gr h),λk o h1 h2 h3=>?_⟩
  have:=H9 R.objs h1 h2 h3
  omega
theorem QX{o:Obj}{aA:Nat→Option Nat}(R:Rel base av w0 S blk a w)(ho:o.live=true){b:Nat}(h:bZ (uK base S blk w) [o] aA b) :
  bZ base (S.objs++[o]) (aI blk S.objs.length (aA 0)) b:=by
 have h0:=NR R h
 refine⟨h0.1,λk ob h1 h2=>?_⟩
 rcases nH h1 with ⟨hk,h1⟩ | ⟨rfl,rfl⟩
 ·unfold aI;rw[if_neg (by omega)];exact h0.2 k ob h1 h2
 ·unfold aI;rw[if_pos rfl];exact h.2 0 ob rfl h2
theorem Rel.made {w':World}{aA:Nat→Option Nat}{o:Obj}(R:Rel base av w0 S blk a w)(hg:lS w w')(hnew:fI [o])
  (h:dP (uK base S blk w) (λb=>b<w.heap.size∧aZ [] blk b) [o] aA w') :
  Rel base av w0 ⟨S.tmps,S.objs++[o]⟩ (aI blk S.objs.length (aA 0)) a w':=by
 cases ho:o.live with
 | false=>
  have hb:∀k,k<S.objs.length→aI blk S.objs.length (aA 0) k=blk k:=λk hk=>by unfold aI;rw[if_neg (by omega)]
  have ho':oI w w' S.objs (S.objs++[o]) blk (aI blk S.objs.length (aA 0)):=by
   intro k ob hk
   have hkl:=(List.getElem?_eq_some_iff.1 hk).1
   exact⟨ob,by rw[List.getElem?_append,if_pos hkl];exact hk,Nat.le_refl _,λhl _=>⟨hl,hb k hkl,rfl,rfl,λ_=>rfl,λg c _ hc=>⟨c,hg.2.1 g _ hc,rfl⟩⟩⟩
  have hget:∀(k:Nat) (ob:Obj),(S.objs++[o])[k]?=some ob→ob.live=true→k<S.objs.length∧S.objs[k]?=some ob:=by
   intro k ob h1 h2
   rcases nH h1 with h1 | ⟨_,rfl⟩
   ·exact h1
   ·rw[ho]at h2;cases h2
  have hok:∀b,bZ base S.objs blk b→bZ base (S.objs++[o]) (aI blk S.objs.length (aA 0)) b:=λb hb0=>⟨hb0.1,λk ob h1 h2=>by
   obtain⟨hk,h1⟩:=hget k ob h1 h2
   rw[hb k hk];exact hb0.2 k ob h1 h2⟩
  refine R.change hg.1 (λb x _ h=>hg.2.1 b x h) (λb _ h=>hok b h) ho' ⟨?_,?_,?_⟩ hg.2.2
  ·intro k ob h1 h2
   obtain⟨hk,h1⟩:=hget k ob h1 h2
   have hh:=R.objs.ob k ob h1 h2
   unfold dA at hh ⊢
   rw[hb k hk]
   cases hbk:blk k with
   | none=>rw[hbk]at hh;exact hh
   | some g=>
    rw[hbk]at hh
    obtain⟨c',x1,x2,x3⟩:=hh
    refine⟨c',hg.2.1 g _ x1,x2,λi x hx=>⟨(x3 i x hx).1,λj p hp=>?_⟩⟩
    obtain⟨v,y1,y2⟩:=(x3 i x hx).2 j p hp
    exact⟨v,y1,y2.mono hg.1 (λb _ h=>hok b h) (λb x _ h=>hg.2.1 b x h) ho'⟩
  ·intro k k' ob ob' g hne h1 h2 h3 h4 h5 h6
   obtain⟨hk,h1⟩:=hget k ob h1 h2
   obtain⟨hk',h3⟩:=hget k' ob' h3 h4
   rw[hb k hk]at h5;rw[hb k' hk']at h6
   exact R.objs.KL k k' ob ob' g hne h1 h2 h3 h4 h5 h6
  ·intro k ob g h1 h2 h3 h4
   obtain⟨hk,h1⟩:=hget k ob h1 h2
   rw[hb k hk]at h3
   exact R.objs.np k ob g h1 h2 h3 h4
 | true=>
  refine R.EY hg (λg hgb=>?_) λhr=>?_
  ·rcases Nat.lt_or_ge g w.heap.size with hlt | hge
   ·exact absurd ⟨hlt,eD blk g⟩ (h.np 0 o g rfl ho hgb)
   ·exact hge
  ·have hh:=h.ob 0 o rfl ho
   unfold dA at hh ⊢
   have hb':aI blk S.objs.length (aA 0) S.objs.length=aA 0:=by unfold aI;rw[if_pos rfl]
   rw[hb']
   cases hb0:aA 0 with
   | none=>rw[hb0]at hh;exact hh
   | some g=>
    rw[hb0]at hh
    obtain⟨c,x1,x2,x3⟩:=hh
    refine⟨c,x1,x2,λi x hx=>⟨(x3 i x hx).1,λj p hp=>?_⟩⟩
    obtain⟨v,y1,y2⟩:=(x3 i x hx).2 j p hp
    refine⟨v,y1,.aM ((y2.Ct (hnew o (by simp) x (List.mem_of_getElem? hx) p (List.mem_of_getElem? hp))).qi λb _ hbk=>?_)⟩
    rw[←hb0]
    exact QX R ho hbk
theorem vY(base av:Nat→Prop)(blk:Nat→Option Nat)(w:World):dP base av [] blk w:=
 ⟨λk o h=>by simp at h,λk k' o o' g _ h=>by simp at h,λk o g h=>by simp at h⟩
theorem MV{args:List PV}{vs:List Value}(h:dB (aY w (bZ base S.objs blk) S.objs blk) args vs)(hp:args.all PV.pure=true) :
  dB (aY w (bZ (uK base S blk w) [] blk) [] blk) args vs:=
 ⟨h.1,λi p v a b=>.aM (((h.2 i p v a b).Ct (List.all_eq_true.1 hp p (List.mem_of_getElem? a))).qi λ_ _ hb=>⟨.inl hb,eD _ _⟩)⟩
theorem l_{w':World}(h:∀b,b<w.heap.size→aZ [] blk b→w'.heap[b]?=w.heap[b]?)(hs:w.heap.size≤w'.heap.size∧Sm w w'):lS w w':=
 ⟨hs.1,λb x hx=>by rw[h b (Array.getElem?_eq_some_iff.1 hx).1 (eD _ _)];exact hx,hs.2⟩
theorem aaS(R:Rel base av w0 S blk a w){p p':PV}{v:Value}(h:agk S.objs p p')(hr:aY w (bZ base S.objs blk) S.objs blk p v):dM w (λ_=>True) p' v:=by
 cases p with
 | bO k ver=>
  obtain⟨o,h1,h2,h3,h4,rfl⟩:=h
  have hh:=hr.bO h1 h2 h3
  unfold Ab at hh
  cases hb:blk k with
  | none=>
   rw[hb]at hh
   rw[hh.1,hh.2]
   exact .slnil _ _ (by simp)
  | some g=>
   rw[hb]at hh
   obtain⟨cap,c,hv,x1,x2,x3,x4⟩:=hh
   obtain⟨c',y1,y2,y3⟩:=mW R h1 h2 hb (hr.vT h1 h2 h3)
   rw[x1]at y1;cases y1
   rw[hv]
   refine .sl o.sz o.xs none (by simp) g 0 cap (λi j=>(c[i*o.sz+j]?).getD undef) (λ_=>⟨trivial,(Array.getElem?_eq_some_iff.1 x1).1⟩) x2 x3 (λi x hx=>(y3 i x hx).1) ?_ ?_
   ·intro i x j p hx hp
    obtain⟨u,u1,_⟩:=(y3 i x hx).2 j p hp
    simp[World.cell?,x1,u1]
   ·intro i x j p hx hp
    obtain⟨u,u1,u2⟩:=(y3 i x hx).2 j p hp
    rw[u1,Option.getD_some]
    exact (u2.Ct (h4 x (List.mem_of_getElem? hx) p (List.mem_of_getElem? hp))).qi λ_ _ _=>trivial
 | bP k ver i f=>
  obtain⟨o,e,h1,h2,h3,h4,rfl,h5,rfl⟩:=h
  obtain⟨g,hb,hv,hty⟩:=hr.bP h1 h2 h3
  obtain⟨y1,y2⟩:=Ux R.objs h1 h2 h4 hb hty
  obtain⟨c,x1,_⟩:=mW R h1 h2 hb hty
  rw[hv]
  refine .ac7 ⟨trivial,(Array.getElem?_eq_some_iff.1 x1).1⟩ λj p hp=>?_
  obtain⟨u,u1,u2⟩:=y2 j p hp
  exact⟨u,u1,(u2.Ct (h5 p (List.mem_of_getElem? hp))).qi λ_ _ _=>trivial⟩
 | _=>
  obtain⟨h1,rfl⟩:=h
  exact (hr.Ct h1).qi λ_ _ _=>trivial
theorem zm(R:Rel base av w0 S blk a w):∀{ps qs:List PV}{vs:List Value},QW S.objs ps qs→dB (aY w (bZ base S.objs blk) S.objs blk) ps vs→dB (dM w (λ_=>True)) qs vs
 | [],[],vs,_,h=>⟨h.1,λi p v hp=>by simp at hp⟩
 | p::ps,q::qs,vs,h,hr=>by
  obtain⟨h1,h2⟩:=h
  match vs,hr with
  | [],hr=>exact absurd hr.1 (by simp)
  | v::vs,hr=>
   have ih:=zm R h2 ⟨by simpa using hr.1,λi p u a b=>hr.2 (i+1) p u (by simpa using a) (by simpa using b)⟩
   refine⟨by simpa using ih.1,λi p' u hp hu=>?_⟩
   cases i with
   | zero=>simp at hp hu;subst hp;subst hu;exact aaS R h1 (hr.2 0 p v rfl rfl)
   | succ i=>exact ih.2 i p' u (by simpa using hp) (by simpa using hu)
theorem bJ.afe {w':World}{ok:Nat→Prop}{aA:Nat→Option Nat}{p:PV}{v:Value}(h:bJ w' ok [] aA p v):dM w' ok p v:=by
 cases p with
 | bO k ver=>obtain⟨_,o,h,_⟩:=h;simp at h
 | bP k ver i f=>obtain⟨_,o,h,_⟩:=h;simp at h
 | mD k ver=>obtain⟨_,o,h,_⟩:=h;simp at h
 | _=>exact h
def PV.UD (f:PV→PV):PV→PV
 | .fn g a c=>.fn g (a.map f) (c.map f)
 | .bY cs=>.bY (cs.map f)
 | .agg cs=>.agg (cs.map f)
 | p=>f p
theorem aY.UD {w':World}{ok ok':Nat→Prop}{objs objs':List Obj}{blk aA:Nat→Option Nat}{p:PV}{v:Value}{f:PV→PV}(h:aY w' ok objs blk p v)
  (hf:∀q u,bJ w' ok objs blk q u→bJ w' ok' objs' aA (f q) u) :
  aY w' ok' objs' aA (p.UD f) v:=by
 have hl:∀cs vs,dB (bJ w' ok objs blk) cs vs→dB (bJ w' ok' objs' aA) (cs.map f) vs:=by
  intro cs vs h
  refine⟨by simpa using h.1,λi p v hp hv=>?_⟩
  rw[List.getElem?_map]at hp
  cases hc:cs[i]? with
  | none=>rw[hc]at hp;simp at hp
  | some q=>rw[hc]at hp;simp at hp;subst hp;exact hf q v (h.2 i q v hc hv)
 cases p with
 | fn g a c=>obtain⟨va,vc,rfl,h1,h2⟩:=h;exact⟨va,vc,rfl,hl _ _ h1,hl _ _ h2⟩
 | bY cs=>obtain⟨vs,rfl,h1⟩:=h;exact⟨vs,rfl,hl _ _ h1⟩
 | agg cs=>obtain⟨vs,rfl,h1⟩:=h;exact⟨vs,rfl,hl _ _ h1⟩
 | _=>exact .lQ (hf _ _ h)
theorem aaT(n:Nat)(p:PV):p.shift n=p.UD (.rq n):=by
 cases p<;>rfl
theorem id_eq(p:PV):p=p.UD id:=by
 cases p<;>simp[PV.UD]
theorem Bh{p:PV}(h:p.atom=true):p.ref=false:=by cases p<;>first | rfl | (simp[PV.atom]at h)
theorem Jd{w':World}{ok ok':Nat→Prop}{objs objs':List Obj}{blk aA:Nat→Option Nat}{p:PV}{v:Value}(hp:p.atom=true)(h:bJ w ok objs blk p v):bJ w' ok' objs' aA p v:=by
 have h':=h.Ct (Bh hp)
 refine .aM ?_
 cases p<;>simp[PV.atom]at hp<;>cases h'<;>constructor
theorem Je{base' aff AO:Nat→Prop}{o:Obj}{aA:Nat→Option Nat}{w':World}(h:dP base' AO [o] aA w')(ho:∀x∈o.xs,∀p∈x.cells,p.atom=true):dP aff AO [o] aA w':=by
 refine⟨λk ob h1 h2=>?_,h.KL,h.np⟩
 have hh:=h.ob k ob h1 h2
 have he:ob=o:=by
  cases k with
  | zero=>simp at h1;exact h1.symm
  | succ k=>simp at h1
 subst he
 unfold dA at hh ⊢
 cases hb:aA k with
 | none=>rw[hb]at hh;exact hh
 | some g=>
  rw[hb]at hh
  obtain⟨c,x1,x2,x3⟩:=hh
  exact⟨c,x1,x2,λi x hx=>⟨(x3 i x hx).1,λj p hp=>let ⟨v,y1,y2⟩:=(x3 i x hx).2 j p hp;⟨v,y1,Jd (ho x (List.mem_of_getElem? hx) p (List.mem_of_getElem? hp)) y2⟩⟩⟩
theorem UE{f:FuncId}{args:List PV}{vs:List Value}{r:PV}{objs':List Obj}{t:Nat}(R:Rel base av w0 S blk a w)(h:nJ P f args S.objs r objs' t)
  (hargs:dB (aY w (bZ base S.objs blk) S.objs blk) args vs) :
  Enters P f∧Calls P f ⟨vs⟩ w λe w'=>∃v aA,e=.returned v∧Rel base av w0 ⟨S.tmps,objs'⟩ aA a w'∧aY w' (bZ base objs' aA) objs' aA r v:=by
 cases h with
 | pure r hp h=>
  refine⟨h.1,(h.2 w blk vs (uK base S blk w) ⟨R.oH,λb hb=>.inr hb⟩ (vY _ _ _ _) (MV hargs hp)).mono λe w' ⟨v,aA,h1,h2,h3,h4,h5⟩=>?_⟩
  have hg:=l_ h4 h5
  refine⟨v,blk,h1,R.grew hg,?_⟩
  rw[id_eq r]
  refine h3.UD (f:=id) λq u hq=>?_
  have hq':=hq.afe
  refine .aM (hq'.mono (Nat.le_refl _) (λb _ hb=>?_) (λ_ _ _ h=>h))
  exact NR R hb
 | made r o hp hnew h=>
  refine⟨h.1,(h.2 w blk vs (uK base S blk w) ⟨R.oH,λb hb=>.inr hb⟩ (vY _ _ _ _) (MV hargs hp)).mono λe w' ⟨v,aA,h1,h2,h3,h4,h5⟩=>?_⟩
  have hg:=l_ h4 h5
  refine⟨v,aI blk S.objs.length (aA 0),h1,R.made hg hnew h2,?_⟩
  rw[aaT]
  refine h3.UD λq u hq=>?_
  have h0:∀(k:Nat) (ob:Obj),[o][k]?=some ob→k=0∧ob=o:=by
   intro k ob hk
   cases k with
   | zero=>simp at hk;exact⟨rfl,hk.symm⟩
   | succ k=>simp at hk
  have hbl:aI blk S.objs.length (aA 0) S.objs.length=aA 0:=by unfold aI;rw[if_pos rfl]
  cases q with
  | bO k ver=>
   obtain⟨ho,ob,g1,g2,g3⟩:=hq
   obtain⟨rfl,rfl⟩:=h0 k ob g1
   refine⟨ho,ob,by simp,g2,λhl hv=>?_⟩
   obtain⟨hM,this⟩:=g3 hl hv
   refine⟨hM,?_⟩
   unfold Ab at this ⊢
   rw[Nat.zero_add,hbl];exact this
  | bP k ver i f=>
   obtain⟨ho,ob,g1,g2,g3⟩:=hq
   obtain⟨rfl,rfl⟩:=h0 k ob g1
   refine⟨ho,ob,by simp,g2,λhl hv=>?_⟩
   obtain⟨hM,g,e1,e2⟩:=g3 hl hv
   exact⟨hM,g,by rw[Nat.zero_add,hbl];exact e1,e2⟩
  | mD k ver=>
   obtain⟨ho,ob,g1,g2,g3⟩:=hq
   obtain⟨rfl,rfl⟩:=h0 k ob g1
   refine⟨ho,ob,by simp,g2,λhl hv=>?_⟩
   obtain⟨hM,g,e1,e2⟩:=g3 hl hv
   exact⟨hM,g,by rw[Nat.zero_add,hbl];exact e1,e2⟩
  | _=>
   have hq':dM w' _ _ u:=hq
   cases hl:o.live with
   | true=>exact .aM (hq'.mono (Nat.le_refl _) (λb _ hb=>QX R hl hb) (λ_ _ _ h=>h))
   | false=>
    refine .aM (hq'.mono (Nat.le_refl _) (λb _ hb=>?_) (λ_ _ _ h=>h))
    have h0:=NR R hb
    refine⟨h0.1,λk ob m1 m2=>?_⟩
    rcases nH m1 with ⟨hk,m3⟩ | ⟨_,eo⟩
    ·unfold aI;rw[if_neg (by omega)];exact h0.2 k ob m3 m2
    ·rw[eo,hl]at m2;cases m2
 | used r objs' h=>exact⟨h.1,h.2.2 base av w0 S.tmps blk a w vs R hargs⟩
 | aaQ ver o args' hl hnew h=>
  have ha:=zm R hl hargs
  refine⟨h.1,(h.2 w blk vs (λ_=>True) ⟨R.oH,λ_ _=>trivial⟩ (vY _ _ _ _) ⟨ha.1,λi p v a b=>.aM ((ha.2 i p v a b).qi λ_ _ _=>⟨trivial,eD _ _⟩)⟩).mono λe w' ⟨v,aA,h1,h2,h3,h4,h5⟩=>?_⟩
  have hg:=l_ h4 h5
  have hn:fI [o]:=λob H8 x hx p hp=>by
   have:ob=o:=by simpa using H8
   subst this
   exact Bh (hnew x hx p hp)
  refine⟨v,aI blk S.objs.length (aA 0),h1,R.made hg hn (Je h2 hnew),?_⟩
  have hbl:aI blk S.objs.length (aA 0) S.objs.length=aA 0:=by unfold aI;rw[if_pos rfl]
  obtain⟨ho,ob,g1,g2,g3⟩:=h3
  have he:ob=o:=by simpa using g1.symm
  subst he
  refine⟨ho,ob,by simp,g2,λhl hv=>?_⟩
  obtain⟨hM,this⟩:=g3 hl hv
  refine⟨hM,?_⟩
  unfold Ab at this ⊢
  rw[hbl];exact this
 | sM ver q o args' hl hnew hq h=>
  have ha:=zm R hl hargs
  refine⟨h.1,(h.2 w blk vs (λ_=>True) ⟨R.oH,λ_ _=>trivial⟩ (vY _ _ _ _) ⟨ha.1,λi p v a b=>.aM ((ha.2 i p v a b).qi λ_ _ _=>⟨trivial,eD _ _⟩)⟩).mono λe w' ⟨v,aA,h1,h2,h3,h4,h5⟩=>?_⟩
  have hg:=l_ h4 h5
  have hn:fI [o]:=λob H8 x hx p hp=>by
   have:ob=o:=by simpa using H8
   subst this
   exact Bh (hnew x hx p hp)
  refine⟨v,aI blk S.objs.length (aA 0),h1,R.made hg hn (Je h2 hnew),?_⟩
  have hbl:aI blk S.objs.length (aA 0) S.objs.length=aA 0:=by unfold aI;rw[if_pos rfl]
  obtain⟨us,rfl,h3⟩:=h3
  refine⟨us,rfl,h3.1,λi p u hp hu=>?_⟩
  match i with
  | 0=>
   cases hp
   obtain⟨ho,ob,g1,g2,g3⟩:=h3.2 0 _ u rfl hu
   have he:ob=o:=by simpa using g1.symm
   subst he
   refine⟨ho,ob,by simp,g2,λhl hv=>?_⟩
   obtain⟨hM,this⟩:=g3 hl hv
   refine⟨hM,?_⟩
   unfold Ab at this ⊢
   rw[hbl];exact this
  | 1=>
   cases hp
   exact Jd hq (h3.2 1 _ u rfl hu)
  | i+2=>simp at hp
 | afd r args' hl hr h=>
  have ha:=zm R hl hargs
  refine⟨h.1,(h.2 w blk vs (λ_=>True) ⟨R.oH,λ_ _=>trivial⟩ (vY _ _ _ _) ⟨ha.1,λi p v a b=>.aM ((ha.2 i p v a b).qi λ_ _ _=>⟨trivial,eD _ _⟩)⟩).mono λe w' ⟨v,aA,h1,h2,h3,h4,h5⟩=>?_⟩
  exact⟨v,blk,h1,R.grew (l_ h4 h5),aaR hr h3⟩
theorem YD{f:FuncId}{args:List PV}{objs objs':List Obj}{r:PV}{t:Nat}(h:nJ P f args objs r objs' t):F3 objs objs':=by
 cases h with
 | pure _ _ _=>exact .same rfl
 | afd _ _ _ _ _=>exact .same rfl
 | used _ _ h=>exact .same h.2.1
 | aaQ ver o _ _ hnew _=>
  refine .of λi x hx j p hp=>?_
  have:=hnew x (List.mem_of_getElem? hx) p (List.mem_of_getElem? hp)
  cases p<;>first | rfl | (simp[PV.atom]at this)
 | sM ver q o _ _ hnew _ _=>
  refine .of λi x hx j p hp=>?_
  have:=hnew x (List.mem_of_getElem? hx) p (List.mem_of_getElem? hp)
  cases p<;>first | rfl | (simp[PV.atom]at this)
 | made r o _ hnew _=>
  refine .of λi x hx j p hp=>?_
  have:=hnew o (by simp) x (List.mem_of_getElem? hx) p (List.mem_of_getElem? hp)
  cases p<;>first | rfl | (simp[PV.ref]at this)
theorem MW{own:Bool}{o:Oper}{K:KT}{next:Act→World→Prop}{Q:Exit→Act→World→Prop}(l:Option Nat)(hD:∀t,je P t (D t))(R:Rel base av w0 S blk a w)
  (h:KF P D own S.ev S.objs o.op K)
  (hn:∀r objs' t v w' aA,K r objs' t→Rel base av w0 ⟨S.tmps,objs'⟩ aA a w'→aY w' (bZ base objs' aA) objs' aA r v→F3 S.objs objs'→next (a.put o.dst v) w') :
  o.wpIn (GZ l) 0 P a w next Q:=by
 have fin:(∀c,o.op≠.defer c)→Out P base av w0 S o a w K→o.wpIn (GZ l) 0 P a w next Q:=by
  rintro hd ⟨v,w',r,objs',t,aA,h1,h2,h3,h4,h5⟩
  exact F4 hd h1 (hn r objs' t v w' aA h2 h3 h4 h5)
 unfold KF at h
 split at h<;>rename_i ho
 ·exact fin (by rw[ho];simp) (QR (.inl ho) R h)
 ·exact fin (by rw[ho];simp) (QR (.inr ho) R h)
 ·exact fin (by rw[ho];simp) (aaL ho R h)
 ·exact fin (by rw[ho];simp) (Yp ho hD R h)
 ·exact fin (by rw[ho];simp) (ac9 ho hD R h)
 ·exact fin (by rw[ho];simp) (Yv ho hD R h)
 ·exact fin (by rw[ho];simp) (I7 ho hD R h)
 ·exact fin (by rw[ho];simp) (aaK ho hD R h)
 ·exact fin (by rw[ho];simp) (Yq ho hD R h)
 ·exact fin (by rw[ho];simp) (NN ho R h)
 ·exact fin (by rw[ho];simp) (ade ho hD R h)
 ·exact fin (by rw[ho];simp) (ae9 ho R h)
 ·exact fin (by rw[ho];simp) (aaM ho hD R h)
 ·exact fin (by rw[ho];simp) (NP ho R h)
 ·exact fin (by rw[ho];simp) (KQ ho hD R h)
 ·exact fin (by rw[ho];simp) (Yu ho hD R h)
 ·exact fin (by rw[ho];simp) (KO ho hD R h)
 ·exact fin (by rw[ho];simp) (Yn ho hD R h)
 ·exact fin (by rw[ho];simp) (KP ho hD R h)
 ·exact fin (by rw[ho];simp) (Yo ho hD R h)
 ·exact fin (by rw[ho];simp) (QS ho R h)
 ·rename_i b args argTypes
  refine fin (by rw[ho];simp) ?_
  unfold fT at h
  split at h
  ·rename_i t x e1 e2
   have KR:argTypes=#[t]:=by apply Array.ext';simpa using e1
   have e2':args=#[x]:=by apply Array.ext';simpa using e2
   subst KR;subst e2'
   exact ac8 ho hD R h
  ·rename_i t u s x e1 e2
   have KR:argTypes=#[t,u]:=by apply Array.ext';simpa using e1
   have e2':args=#[s,x]:=by apply Array.ext';simpa using e2
   subst KR;subst e2'
   exact Uz ho hD R h
  ·exact I9 (isMax:=true) ho R h
  ·exact I9 (isMax:=false) ho R h
  ·exact h.elim
 ·rename_i f args argTypes
  unfold Jc at h
  split at h
  ·rename_i g first cap e
   obtain⟨r,objs',t,hc,hK⟩:=h
   have hf:=R.ev f
   rw[e]at hf
   obtain⟨va,vc,hv,r1,r2⟩:=hf
   have hargs:dB (aY w (bZ base S.objs blk) S.objs blk) (first++args.toList.map S.ev++cap) (va++args.toList.map a.eval++vc):=by
    have app:∀{ps qs:List PV}{us ws:List Value}{Rr:PV→Value→Prop},dB Rr ps us→dB Rr qs ws→dB Rr (ps++qs) (us++ws):=by
     intro ps qs us ws Rr h1 h2
     refine⟨by simp[h1.1,h2.1],λi p v hp hv=>?_⟩
     rw[List.getElem?_append]at hp hv
     by_cases hi:i<ps.length
     ·rw[if_pos hi]at hp;rw[if_pos (by rw[←h1.1];exact hi)]at hv;exact h1.2 _ _ _ hp hv
     ·rw[if_neg hi]at hp;rw[if_neg (by rw[←h1.1];exact hi)]at hv;rw[←h1.1]at hv;exact h2.2 _ _ _ hp hv
    exact app (app (r1.mono λ_ _ h=>.lQ h) (CG _ λx _=>R.ev x)) (r2.mono λ_ _ h=>.lQ h)
   obtain⟨⟨fn,hfn,hname,hbody⟩,hcalls⟩:=UE R hc hargs
   refine⟨λ_ _=>trivial,?_⟩
   rw[Oper.semAt_eq _ _ _ (by rw[ho];simp)]
   have hrun:(execOp a.eval o).run P w=.ok (.enter g ⟨va++args.toList.map a.eval++vc⟩) w:=by
    have e1:(Array.mk va)++args.map a.eval++(Array.mk vc)=Array.mk (va++args.toList.map a.eval++vc):=by apply Array.ext';simp
    simp only[execOp,ho,resolve,hv,Deferred.ofValue,Sem.run_bind,Sem.run_pure,Result.andThen_ok,invoke,callFunc,run_program,hfn,hname,hbody,Bool.false_eq_true,if_false]
    rw[e1]
   rw[hrun]
   refine⟨(λh=>by cases h),?_⟩
   refine CallsIn.mono (YC hcalls l) λe w' ⟨v,aA,h1,h2,h3⟩=>?_
   subst h1
   exact hn r objs' t v w' aA hK h2 h3 (YD hc)
  ·exact h.elim
 ·exact fin (by rw[ho];simp) (QV ho R h)
 ·exact fin (by rw[ho];simp) (UC ho hD R h)
 ·exact fin (by rw[ho];simp) (AJ (.inl ho) hD R h)
 ·exact fin (by rw[ho];simp) (AJ (.inr ho) hD R h)
 ·exact fin (by rw[ho];simp) (Yy ho hD R h)
 ·exact fin (by rw[ho];simp) (YB ho R h)
 ·exact h.elim
theorem CJ{own:Bool}{o:Oper}{K:KT}{next:Act→World→Prop}{Q:Exit→Act→World→Prop}(l:Option Nat)(hD:∀t,je P t (D t))(R:Rel base av w0 S blk a w)
  (h:KF P D own S.ev S.objs o.op K)
  (hn:∀r objs' t v w' aA,K r objs' t→Rel base av w0 ⟨S.tmps,objs'⟩ aA a w'→aY w' (bZ base objs' aA) objs' aA r v→next (a.put o.dst v) w') :
  o.wpIn (GZ l) 0 P a w next Q:=MW l hD R h λr objs' t v w' aA h1 h2 h3 _=>hn r objs' t v w' aA h1 h2 h3
end
end Lp
namespace Lp
open Go
def co(t:Nat):Nat:=if t≤2 then t else if t % 2=0 then 1 else 2
theorem agl(k:Nat):co (4+2*k)=1:=by unfold co;rw[if_neg (by omega),if_pos (by omega)]
theorem Xm(k:Nat):co (5+2*k)=2:=by unfold co;rw[if_neg (by omega),if_neg (by omega)]
theorem Xn{t:Nat}(h:t≠0):co t≠0:=by unfold co;split<;> (try split)<;>omega
def Mk(mk:Nat→PV):Prop:=mk=(λn=>.bO n 1)∨mk=(λn=>.bP n 1 0 0)∨mk=(λn=>.mD n 1)
structure adj (A:List Obj→KT→Prop) (objs:List Obj) (r:PV) (o:List Obj) (t:Nat):Prop where
 rd:∀k,t=4+2*k→o=objs∧k<objs.length∧∀(eF:List Obj) (K':KT),eF[k]?=objs[k]?→K' r eF t→A eF K'
 wr:∀k,t=5+2*k→(∃o1,k<objs.length∧o=objs.set k o1∧∀(eF:List Obj) (K':KT),eF[k]?=objs[k]?→K' r (eF.set k o1) t→A eF K')∨
  (k=objs.length∧∃o1 mk,Mk mk∧r=mk k∧o=objs++[o1]∧o1.live=true∧o1.ver=1∧∀(eF:List Obj) (K':KT),K' (mk eF.length) (eF++[o1]) (5+2*eF.length)→A eF K')
def xV(A:List Obj→KT→Prop)(objs:List Obj)(K:KT):Prop:=
 ∃r o t,K r o t∧(co t≠2→o=objs)∧(∀K':KT,K' r o t→A objs K')∧(t=0→∀(eF:List Obj) (K':KT),K' r eF 0→A eF K')∧adj A objs r o t
theorem adj.few {A:List Obj→KT→Prop}{objs:List Obj}{r:PV}{o:List Obj}{t:Nat}(h:t≤2):adj A objs r o t:=⟨λk e=>by omega,λk e=>by omega⟩
variable {P:Program}{D:TypeId→aH}{ev:Operand→PV}{objs:List Obj}{K:KT}
theorem xV.zero {A:List Obj→KT→Prop}{r:PV}(hK:K r objs 0)(h:∀(o:List Obj) (K':KT),K' r o 0→A o K'):xV A objs K:=⟨r,objs,0,hK,λ_=>rfl,h _,λ_ o=>h o,.few (by decide)⟩
theorem xV.rd {A:List Obj→KT→Prop}{r:PV}(k:Nat){o:Obj}(hk:objs[k]?=some o)(hK:K r objs (4+2*k))(h:∀(eF:List Obj) (K':KT),eF[k]?=objs[k]?→K' r eF (4+2*k)→A eF K'):xV A objs K:=
 ⟨r,objs,_,hK,λ_=>rfl,λK' hk=>h objs K' rfl hk,λe=>by omega,λk' e=>by
  have:k'=k:=by omega
  subst this;exact⟨rfl,(List.getElem?_eq_some_iff.1 hk).1,λeF K' he hk=>h eF K' he hk⟩,λk' e=>by omega⟩
theorem xV.wr {A:List Obj→KT→Prop}{r:PV}(k:Nat){o:Obj}(o1:Obj)(hk:objs[k]?=some o)(hK:K r (objs.set k o1) (5+2*k))
  (h:∀(eF:List Obj) (K':KT),eF[k]?=objs[k]?→K' r (eF.set k o1) (5+2*k)→A eF K'):xV A objs K:=
 ⟨r,_,_,hK,λe=>absurd (Xm k) e,λK' hk=>h objs K' rfl hk,λe=>by omega,λk' e=>by omega,λk' e=>by
  have:k'=k:=by omega
  subst this;exact .inl ⟨o1,(List.getElem?_eq_some_iff.1 hk).1,rfl,λeF K' he hk=>h eF K' he hk⟩⟩
theorem xV.new {A:List Obj→KT→Prop}(mk:Nat→PV)(hm:Mk mk)(o1:Obj)(hl:o1.live=true)(hv:o1.ver=1)(hK:K (mk objs.length) (objs++[o1]) (5+2*objs.length))
  (h:∀(eF:List Obj) (K':KT),K' (mk eF.length) (eF++[o1]) (5+2*eF.length)→A eF K'):xV A objs K:=
 ⟨_,_,_,hK,λe=>absurd (Xm _) e,λK' hk=>h objs K' hk,λe=>by omega,λk' e=>by omega,λk' e=>by
  have:k'=objs.length:=by omega
  subst this;exact .inr ⟨rfl,o1,mk,hm,rfl,rfl,hl,hv,h⟩⟩
theorem xV.two {A:List Obj→KT→Prop}{r:PV}{o:List Obj}(hK:K r o 2)(h:∀K':KT,K' r o 2→A objs K'):xV A objs K:=⟨r,o,2,hK,λe=>absurd (by decide) e,h,λe=>absurd e (by decide),.few (by decide)⟩
def QY(A:(PV→Prop)→Prop)(K:PV→Prop):Prop:=∃r,K r∧∀K':PV→Prop,K' r→A K'
theorem QY.fac {A:(PV→Prop)→Prop}(h:QY A (λr=>K r objs 0)):xV (λo K=>A (λr=>K r o 0)) objs K:=by
 obtain⟨r,h1,h2⟩:=h
 exact .zero h1 λo K' hk=>h2 _ hk
theorem YE{op:BinOp}{k k':IntKind}{x y:Int}{K:PV→Prop}(h:p_ op k k' x y K):QY (p_ op k k' x y) K:=by
 cases op<;>simp only[p_]at h<;> (first
  | (obtain⟨h1,h2,h3,h4⟩:=h;exact⟨_,h4,λ_ hk=>⟨h1,h2,h3,hk⟩⟩)
  | (obtain⟨h1,h2,h3⟩:=h;exact⟨_,h3,λ_ hk=>⟨h1,h2,hk⟩⟩)
  | (obtain⟨h1,h2⟩:=h;exact⟨_,h2,λ_ hk=>⟨h1,hk⟩⟩))
theorem YF{op:BinOp}{x y:List UInt8}{K:PV→Prop}(h:jI op x y K):QY (jI op x y) K:=by
 cases op<;>simp only[jI]at h<;> (first
  | exact h.elim
  | (obtain⟨h1,h2⟩:=h;exact⟨_,h2,λ_ hk=>⟨h1,hk⟩⟩)
  | exact⟨_,h,λ_ hk=>hk⟩)
theorem YG{ti:aH}{t:TypeId}{op:BinOp}{x y:PV}{K:PV→Prop}(h:pM P ti t op x y K):QY (pM P ti t op x y) K:=by
 unfold pM at h
 split at h
 ·exact YE h
 ·exact YF h
 ·obtain⟨h1,h⟩:=h
  cases op<;>simp only[]at h<;>first | exact h.elim | exact⟨_,h,λ_ hk=>⟨h1,hk⟩⟩
 ·obtain⟨h1,r,h2,h⟩:=h
  cases op<;>simp only[]at h<;>first | exact h.elim | exact⟨_,h,λ_ hk=>⟨h1,r,h2,hk⟩⟩
 ·obtain⟨h1,h⟩:=h
  cases op<;>simp only[]at h<;>first | exact h.elim | exact⟨_,h,λ_ hk=>⟨h1,hk⟩⟩
 ·exact h.elim
theorem aaU{op:UnOp}{x:PV}{K:PV→Prop}(h:Qu op x K):QY (Qu op x) K:=by
 unfold Qu at h
 split at h
 ·exact⟨_,h,λ_ hk=>hk⟩
 ·exact⟨_,h.2,λ_ hk=>⟨h.1,hk⟩⟩
 ·exact h.elim
theorem UF{s d:aH}{x:PV}{K:PV→Prop}(h:ou s d x K):QY (ou s d x) K:=by
 unfold ou at h
 split at h
 ·rename_i e;exact⟨_,h.2,λ_ hk=>by unfold ou;rw[e];exact⟨h.1,hk⟩⟩
 ·rename_i e;exact⟨_,h.2,λ_ hk=>by unfold ou;rw[e];exact⟨h.1,hk⟩⟩
 ·rename_i e;exact⟨_,h.2,λ_ hk=>by unfold ou;rw[e];exact⟨h.1,hk⟩⟩
 ·exact h.elim
theorem F8{m:Bool}{xs:List PV}{K:PV→Prop}(h:jf m xs K):QY (jf m xs) K:=by
 unfold jf at h
 split at h
 ·exact⟨_,h.2,λ_ hk=>⟨h.1,hk⟩⟩
 ·exact h.elim
theorem aaV{c x y:PV}(h:sP c x y objs K):xV (sP c x y) objs K:=by
 unfold sP at h
 split at h
 ·exact .zero h λ_ _ hk=>hk
 ·exact h.elim
theorem aaW{ti:aH}{p:PV}(h:fQ ti p objs K):xV (fQ ti p) objs K:=by
 unfold fQ at h
 split at h
 ·obtain⟨h1,h2,h3,h4⟩:=h
  exact .zero h4 λ_ _ hk=>⟨h1,h2,h3,hk⟩
 ·obtain⟨o,e,h1,h2,h3,h4,h5,h6,h7,h8,h9⟩:=h
  exact .rd _ h1 h9 λ_ _ he hk=>⟨o,e,he.trans h1,h2,h3,h4,h5,h6,h7,h8,hk⟩
 ·exact h.elim
theorem YH{ti:aH}{p v:PV}(h:kK ti p v objs K):xV (kK ti p v) objs K:=by
 unfold kK at h
 split at h
 ·obtain⟨o,e,h1,h2,h3,h4,h5,h6,h7,h8,h9,h10⟩:=h
  exact .wr _ _ h1 h10 λ_ _ he hk=>⟨o,e,he.trans h1,h2,h3,h4,h5,h6,h7,h8,h9,hk⟩
 ·exact h.elim
theorem xW{t:TypeId}{f:Nat}{X:Nat→aH→Prop}(h:eu D t f X):∃off ti,X off ti∧∀X':Nat→aH→Prop,X' off ti→eu D t f X':=by
 unfold eu at h
 split at h
 ·rename_i fs hk
  obtain⟨x,h1,h2,h3,h4⟩:=h
  exact⟨_,_,h4,λX' hx=>by unfold eu;rw[hk];exact⟨x,h1,h2,h3,hx⟩⟩
 ·exact h.elim
theorem KS{t:TypeId}{p:PV}{f:Nat}(h:aK D t p f objs K):xV (aK D t p f) objs K:=by
 unfold aK at h
 split at h
 ·obtain⟨off,ti,⟨h1,h2,h3,h4⟩,g⟩:=xW h
  exact .zero h4 λ_ _ hk=>by unfold aK;exact g _ ⟨h1,h2,h3,hk⟩
 ·obtain⟨o,h1,h2,h3,h⟩:=h
  obtain⟨off,ti,h4,g⟩:=xW h
  exact .rd _ h1 h4 λ_ _ he hk=>⟨o,he.trans h1,h2,h3,g _ hk⟩
 ·exact h.elim
theorem YI{t:TypeId}{p:PV}{f:Nat}(h:qa D t p f objs K):xV (qa D t p f) objs K:=by
 unfold qa at h
 split at h
 ·obtain⟨off,ti,⟨h1,h2⟩,g⟩:=xW h
  exact .zero h2 λ_ _ hk=>by unfold qa;exact g _ ⟨h1,hk⟩
 ·exact h.elim
theorem KU{t:TypeId}{x i:PV}(h:bC D t x i objs K):xV (bC D t x i) objs K:=by
 unfold bC at h
 split at h<;> (try rename_i hk)
 ·rename_i e _ _ _ _ _ hk
  obtain⟨h1,h2,y,h3,h4,h5⟩:=h
  exact .zero h5 λ_ _ hk'=>by unfold bC;rw[hk];exact⟨h1,h2,y,h3,h4,hk'⟩
 ·rename_i e _ _ _ _ hk
  obtain⟨h1,h2,o,h3,h4,h5,h6,h7,h8⟩:=h
  exact .rd _ h3 h8 λ_ _ he hk'=>by unfold bC;rw[hk];exact⟨h1,h2,o,he.trans h3,h4,h5,h6,h7,hk'⟩
 ·rename_i m e _ _ _ hk
  obtain⟨h1,h2,h3,h4,h5,h6,h7⟩:=h
  exact .zero h7 λ_ _ hk'=>by unfold bC;rw[hk];exact⟨h1,h2,h3,h4,h5,h6,hk'⟩
 ·rename_i m e _ _ _ _ _ _ hk
  obtain⟨h1,h2,h3,o,h4,h5,h6,h7⟩:=h
  exact .rd _ h4 h7 λ_ _ he hk'=>by unfold bC;rw[hk];exact⟨h1,h2,h3,o,he.trans h4,h5,h6,hk'⟩
 ·exact h.elim
theorem YJ{t:TypeId}{x i:PV}(h:mH D t x i objs K):xV (mH D t x i) objs K:=by
 unfold mH at h
 split at h<;> (try rename_i hk)
 ·obtain⟨h1,b,h2,h3⟩:=h
  exact .zero h3 λ_ _ hk'=>by unfold mH;rw[hk];exact⟨h1,b,h2,hk'⟩
 ·obtain⟨h1,h2,h3,h4,h5,h6⟩:=h
  exact .zero h6 λ_ _ hk'=>by unfold mH;rw[hk];exact⟨h1,h2,h3,h4,h5,hk'⟩
 ·exact h.elim
theorem mJ{x:Option PV}{d:Int}{X:Int→Prop}(h:dJ x d X):∃n,X n∧∀X':Int→Prop,X' n→dJ x d X':=by
 unfold dJ at h
 split at h
 ·exact⟨_,h,λ_ hx=>hx⟩
 ·exact⟨_,h,λ_ hx=>hx⟩
 ·exact h.elim
theorem YK{t:TypeId}{x:PV}{lo hi:Option PV}(h:jJ D t x lo hi objs K):xV (jJ D t x lo hi) objs K:=by
 unfold jJ at h
 split at h<;> (try rename_i hk)
 ·obtain⟨l,h,g1⟩:=mJ h
  obtain⟨m,⟨h1,h2,h3,h4⟩,g2⟩:=mJ h
  exact .zero h4 λ_ _ hk'=>by unfold jJ;rw[hk];exact g1 _ (g2 _ ⟨h1,h2,h3,hk'⟩)
 ·obtain⟨e1,e2,h⟩:=h
  obtain⟨l,h,g1⟩:=mJ h
  obtain⟨m,⟨h1,h2,h3,h4⟩,g2⟩:=mJ h
  exact .zero h4 λ_ _ hk'=>by unfold jJ;rw[hk];exact⟨e1,e2,g1 _ (g2 _ ⟨h1,h2,h3,hk'⟩)⟩
 ·obtain⟨e1,o,e2,e3,e4,e5,e6,h⟩:=h
  obtain⟨m,⟨h1,h2,h3⟩,g2⟩:=mJ h
  exact .wr _ _ e2 h3 λ_ _ he hk'=>by unfold jJ;rw[hk];exact⟨e1,o,he.trans e2,e3,e4,e5,e6,g2 _ ⟨h1,h2,hk'⟩⟩
 ·obtain⟨e1,e2,e3,e4,e5,e6,h⟩:=h
  obtain⟨l,h,g1⟩:=mJ h
  obtain⟨m,⟨h1,h2,h3,h4⟩,g2⟩:=mJ h
  exact .zero h4 λ_ _ hk'=>by unfold jJ;rw[hk];exact⟨e1,e2,e3,e4,e5,e6,g1 _ (g2 _ ⟨h1,h2,h3,hk'⟩)⟩
 ·exact h.elim
theorem adk{t:TypeId}{x:PV}(h:qZ D t x objs K):xV (qZ D t x) objs K:=by
 unfold qZ at h
 split at h<;> (try rename_i hk)
 ·exact .zero h λ_ _ hk'=>by unfold qZ;rw[hk];exact hk'
 ·exact .zero h λ_ _ hk'=>by unfold qZ;rw[hk];exact hk'
 ·obtain⟨o,e2,e3,e4,h⟩:=h
  exact .rd _ e2 h λ_ _ he hk'=>by unfold qZ;rw[hk];exact⟨o,he.trans e2,e3,e4,hk'⟩
 ·exact h.elim
theorem EZ{place:Nat→Option (Nat×Nat)}:∀{parts:List (Nat×PV)}{cs:List PV}{X:List PV→Prop},nD place cs parts X→∃cs',X cs'∧∀X':List PV→Prop,X' cs'→nD place cs parts X'
 | [],cs,_,h=>⟨cs,h,λ_ hx=>hx⟩
 | (_,_)::_,_,_,⟨x,h1,h2,h3,h⟩=>
  let ⟨cs',g1,g2⟩:=EZ h
  ⟨cs',g1,λ_ hx=>⟨x,h1,h2,h3,g2 _ hx⟩⟩
theorem YL{t:TypeId}{ps:List (Nat×PV)}(h:bM D t ps objs K):xV (bM D t ps) objs K:=by
 obtain⟨a1,a2,a3,h⟩:=h
 unfold mI at h
 split at h<;> (try rename_i hk)
 ·obtain⟨h1,h⟩:=h
  obtain⟨cs,h2,g⟩:=EZ h
  exact .zero h2 λ_ _ hk'=>⟨a1,a2,a3,by unfold mI;rw[hk];exact⟨h1,g _ hk'⟩⟩
 ·obtain⟨h1,h⟩:=h
  obtain⟨cs,h2,g⟩:=EZ h
  exact .zero h2 λ_ _ hk'=>⟨a1,a2,a3,by unfold mI;rw[hk];exact⟨h1,g _ hk'⟩⟩
 ·exact h.elim
theorem Jf{own:Bool}{t:TypeId}{n:Nat}{ps:List (Nat×PV)}(h:bW D own t n ps objs K):xV (bW D own t n ps) objs K:=by
 unfold bW at h
 split at h<;> (try rename_i hk)
 ·obtain⟨h1,h2,h3,h4,h5,h6,h7⟩:=h
  cases own with
  | true=>
   simp only[if_true]at h7
   exact .new (λn=>.bO n 1) (.inl rfl) _ rfl rfl h7 λ_ _ hk'=>by unfold bW;rw[hk];exact⟨h1,h2,h3,h4,h5,h6,hk'⟩
  | false=>
   simp only[Bool.false_eq_true,if_false]at h7
   exact .zero h7 λ_ _ hk'=>by unfold bW;rw[hk];exact⟨h1,h2,h3,h4,h5,h6,hk'⟩
 ·exact h.elim
theorem KV{t:TypeId}{l c:PV}(h:fZ D t l c objs K):xV (fZ D t l c) objs K:=by
 unfold fZ at h
 split at h<;> (try rename_i hk)
 ·obtain⟨h1,h2,h3,h4,h5,h6,h7,h8,h9⟩:=h
  exact .new (λn=>.bO n 1) (.inl rfl) _ rfl rfl h9 λ_ _ hk'=>by unfold fZ;rw[hk];exact⟨h1,h2,h3,h4,h5,h6,h7,h8,hk'⟩
 ·exact h.elim
theorem aaX{t:TypeId}{x:PV}{X:List PV→Bool→Prop}(h:nE D t x objs X):∃ys q,X ys q∧(∀X':List PV→Bool→Prop,X' ys q→nE D t x objs X')∧
  (q=false→∀(eF:List Obj) (X':List PV→Bool→Prop),X' ys q→nE D t x eF X'):=by
 unfold nE at h
 split at h<;> (try rename_i hk)
 ·exact⟨_,_,h,λ_ hx=>by unfold nE;rw[hk];exact hx,λ_ _ _ hx=>by unfold nE;rw[hk];exact hx⟩
 ·obtain⟨o,h1,h2,h3,h⟩:=h
  exact⟨_,_,h,λ_ hx=>by unfold nE;rw[hk];exact⟨o,h1,h2,h3,hx⟩,λe=>by cases e⟩
 ·exact⟨_,_,h,λ_ hx=>by unfold nE;rw[hk];exact hx,λ_ _ _ hx=>by unfold nE;rw[hk];exact hx⟩
 ·exact h.elim
theorem UG{t u:TypeId}{s x:PV}(h:eB D t u s x objs K):xV (eB D t u s x) objs K:=by
 unfold eB at h
 split at h<;> (try rename_i hk)
 ·obtain⟨h1,h2,h3,h4,h⟩:=h
  obtain⟨ys,q,⟨hy,h⟩,g,g2⟩:=aaX h
  split at h
  ·rename_i k ver
   obtain⟨o,e1,e2,e3,e4,e5,e6,e7,e8,e9⟩:=h
   cases q with
   | true=>exact .two e9 λ_ hk'=>by unfold eB;rw[hk];exact⟨h1,h2,h3,h4,g _ ⟨hy,o,e1,e2,e3,e4,e5,e6,e7,e8,hk'⟩⟩
   | false=>exact .wr _ _ e1 e9 λ_ _ he hk'=>by unfold eB;rw[hk];exact⟨h1,h2,h3,h4,g2 rfl _ _ ⟨hy,o,he.trans e1,e2,e3,e4,e5,e6,e7,e8,hk'⟩⟩
  ·obtain⟨e1,e2,e3,e4,e5,e6⟩:=h
   cases q with
   | true=>exact .two e6 λ_ hk'=>by unfold eB;rw[hk];exact⟨h1,h2,h3,h4,g _ ⟨hy,e1,e2,e3,e4,e5,hk'⟩⟩
   | false=>exact .new (λn=>.bO n 1) (.inl rfl) _ rfl rfl e6 λ_ _ hk'=>by unfold eB;rw[hk];exact⟨h1,h2,h3,h4,g2 rfl _ _ ⟨hy,e1,e2,e3,e4,e5,hk'⟩⟩
  ·obtain⟨e1,e2,e3⟩:=h
   cases q with
   | true=>exact .two e3 λ_ hk'=>by unfold eB;rw[hk];exact⟨h1,h2,h3,h4,g _ ⟨hy,e1,e2,hk'⟩⟩
   | false=>exact .new (λn=>.bO n 1) (.inl rfl) _ rfl rfl e3 λ_ _ hk'=>by unfold eB;rw[hk];exact⟨h1,h2,h3,h4,g2 rfl _ _ ⟨hy,e1,e2,hk'⟩⟩
  ·exact h.elim
 ·exact h.elim
theorem NS{x:PV}(h:dU x objs K):xV (dU x) objs K:=by
 unfold dU at h
 split at h
 ·exact .zero h λ_ _ hk=>hk
 ·obtain⟨o,h1,h2,h3,h⟩:=h
  exact .rd _ h1 h λ_ _ he hk=>⟨o,he.trans h1,h2,h3,hk⟩
 ·exact h.elim
theorem aaY{s t:TypeId}{x:PV}(h:kZ D s t x objs K):xV (kZ D s t x) objs K:=by
 by_cases hx:∃k ver,x=.bO k ver
 ·obtain⟨k,ver,rfl⟩:=hx
  obtain⟨ob,bs,h1,h2,h3,h4,h5,h6,h7,h8,h9⟩:=h
  exact .rd k h1 h9 λeF K' he hk=>⟨ob,bs,by rw[he];exact h1,h2,h3,h4,h5,h6,h7,h8,hk⟩
 ·have e:∀(objs:List Obj) (K:KT),kZ D s t x objs K=ou (D s) (D t) x λr=>K r objs 0:=λobjs K=>I8 λk ver e=>hx ⟨k,ver,e⟩
  rw[e]at h
  have e2:kZ D s t x=λ(o:List Obj) (K:KT)=>ou (D s) (D t) x λr=>K r o 0:=by funext o K;exact e o K
  rw[e2]
  exact (UF h).fac
theorem G6{f:FuncId}{args:List PV}{r:PV}{o:List Obj}(h:nJ P f args objs r o 0)(eF:List Obj):o=objs∧nJ P f args eF r eF 0:=by
 cases h with
 | pure _ ha h=>exact⟨rfl,.pure _ ha h⟩
theorem QZ{f:FuncId}{args:List PV}{r:PV}{o:List Obj}{t:Nat}(h:nJ P f args objs r o t)(ht:co t≠2):o=objs:=by
 cases h with
 | pure _ ha h=>rfl
 | made _ _ _ _ _=>exact absurd (by decide) ht
 | used _ _ _=>exact absurd (by decide) ht
 | aaQ _ _ _ _ _ _=>exact absurd (by decide) ht
 | sM _ _ _ _ _ _ _ _=>exact absurd (by decide) ht
 | afd _ _ _ _ _=>rfl
theorem aaZ{f:PV}{args:List PV}(h:Jc P f args objs K):xV (Jc P f args) objs K:=by
 unfold Jc at h
 split at h
 ·obtain⟨r,o,t,hc,hK⟩:=h
  refine⟨r,o,t,hK,QZ hc,λ_ hk=>⟨r,o,t,hc,hk⟩,?_,.few (by cases hc<;>decide)⟩
  intro ht eF K' hk
  subst ht
  exact⟨r,eF,0,(G6 hc eF).2,hk⟩
 ·exact h.elim
theorem Q0{t:TypeId}(h:l9 D t objs K):xV (l9 D t) objs K:=by
 unfold l9 at h
 split at h
 ·rename_i k e hk
  exact .new (λn=>.mD n 1) (.inr (.inr rfl)) _ rfl rfl h λ_ _ hk'=>by unfold l9;rw[hk];exact hk'
 ·exact h.elim
theorem UH{t:TypeId}{x ix:PV}{ok:Bool}(h:mF D t x ix ok objs K):xV (mF D t x ix ok) objs K:=by
 unfold mF at h
 split at h
 ·rename_i kt et k ver hk
  obtain⟨h1,h2,o,h3,h4,h5,h6,m,h7,h8⟩:=h
  exact .rd _ h3 h8 λ_ _ he hk'=>by unfold mF;rw[hk];exact⟨h1,h2,o,he.trans h3,h4,h5,h6,m,h7,hk'⟩
 ·exact h.elim
theorem AP{t:TypeId}{x y z:PV}(h:gW D t x y z objs K):xV (gW D t x y z) objs K:=by
 unfold gW at h
 split at h
 ·rename_i kt et k ver hk
  obtain⟨h1,h2,h2',o,h3,h4,h5,h6,m,h7,h8⟩:=h
  exact .wr _ _ h3 h8 λ_ _ he hk'=>by unfold gW;rw[hk];exact⟨h1,h2,h2',o,he.trans h3,h4,h5,h6,m,h7,hk'⟩
 ·exact h.elim
theorem YM{t:TypeId}{x:PV}(h:vW D t x objs K):xV (vW D t x) objs K:=by
 unfold vW at h
 split at h
 ·rename_i kt et k ver hk
  obtain⟨o,h1,h2,h3,h4,h5⟩:=h
  exact .two h5 λK' hk'=>by unfold vW;rw[hk];exact⟨o,h1,h2,h3,h4,hk'⟩
 ·exact h.elim
theorem YN{x:PV}(h:vX x objs K):xV (vX x) objs K:=by
 unfold vX at h
 split at h
 ·rename_i j ver
  obtain⟨k,kv,n,seen,i,mo,key,v,h1,h2,h3,h4,h5,h6,h7,h8⟩:=h
  exact⟨_,objs,1,h8,λ_=>rfl,λK' hk'=>⟨k,kv,n,seen,i,mo,key,v,h1,h2,h3,h4,h5,h6,h7,hk'⟩,λe=>absurd e (by decide),.few (by decide)⟩
 ·exact h.elim
theorem Xo{own:Bool}{op:Op}(h:KF P D own ev objs op K):xV (λo K=>KF P D own ev o op K) objs K:=by
 unfold KF at h
 split at h
 ·exact .zero h λ_ _ hk=>hk
 ·exact .zero h λ_ _ hk=>hk
 ·exact aaV h
 ·obtain⟨h1,h2,h3,h4⟩:=h
  exact .new (λn=>.bP n 1 0 0) (.inr (.inl rfl)) _ rfl rfl h4 λ_ _ hk=>⟨h1,h2,h3,hk⟩
 ·obtain⟨h1,h2,h3,h4⟩:=h
  exact .new (λn=>.bP n 1 0 0) (.inr (.inl rfl)) _ rfl rfl h4 λ_ _ hk=>⟨h1,h2,h3,hk⟩
 ·exact YL h
 ·exact Jf h
 ·exact aaW h
 ·exact YH h
 ·exact NS h
 ·exact (YG h).fac
 ·exact (aaU h).fac
 ·exact aaY h
 ·obtain⟨h1,h2,h3⟩:=h
  exact .zero h3 λ_ _ hk=>⟨h1,h2,hk⟩
 ·exact KV h
 ·exact YK h
 ·exact KS h
 ·exact YI h
 ·exact KU h
 ·exact YJ h
 ·rename_i x i
  unfold bq at h
  split at h
  ·rename_i cs e
   obtain⟨p,h1,h2⟩:=h
   exact .zero h2 λ_ _ hk=>by show bq (ev x) i _ _;unfold bq;rw[e];exact⟨p,h1,hk⟩
  ·exact h.elim
 ·rename_i b args ts
  unfold fT at h
  split at h
  ·rename_i t0 x0 e1 e2
   have hf:=adk h
   have e':(λ(o:List Obj) (K:KT)=>fT D .len ts.toList args.toList ev o K)=qZ D t0 (ev x0):=by
    funext o K;unfold fT;rw[e1,e2]
   show xV (λ(o:List Obj) (K:KT)=>fT D .len ts.toList args.toList ev o K) objs _
   rw[e'];exact hf
  ·rename_i t0 u0 s0 x0 e1 e2
   have hf:=UG h
   have e':(λ(o:List Obj) (K:KT)=>fT D .append ts.toList args.toList ev o K)=eB D t0 u0 (ev s0) (ev x0):=by
    funext o K;unfold fT;rw[e1,e2]
   show xV (λ(o:List Obj) (K:KT)=>fT D .append ts.toList args.toList ev o K) objs _
   rw[e'];exact hf
  ·obtain⟨r,g1,g2⟩:=F8 h
   exact .zero g1 λo K' hk=>g2 (λr=>K' r o 0) hk
  ·obtain⟨r,g1,g2⟩:=F8 h
   exact .zero g1 λo K' hk=>g2 (λr=>K' r o 0) hk
  ·exact h.elim
 ·exact aaZ h
 ·exact Q0 h
 ·exact UH h
 ·exact AP h
 ·exact AP h
 ·exact YM h
 ·exact YN h
 ·exact h.elim
theorem zq{own:Bool}{op:Op}{ev':Operand→PV}(he:∀x∈op.operands,ev x=ev' x)(h:KF P D own ev objs op K):KF P D own ev' objs op K:=by
 have hmap:∀(xs:Array Operand),(∀x∈xs,ev x=ev' x)→xs.toList.map ev=xs.toList.map ev':=
  λxs hx=>List.map_congr_left λx hm=>hx x (by simpa using hm)
 have aei:∀(ps:Array (Nat×Operand)),(∀x∈ps.toList,ev x.2=ev' x.2)→ps.toList.map (λx=>(x.1,ev x.2))=ps.toList.map (λx=>(x.1,ev' x.2)):=
  λps hx=>List.map_congr_left λx hm=>by rw[hx x hm]
 unfold KF at h ⊢
 split at h<;> (try simp only[Op.operands,Call.operands]at he)
 case h_1 x=>rw[←he x (by simp)];exact h
 case h_2 x=>rw[←he x (by simp)];exact h
 case h_3 c x y=>rw[←he c (by simp),←he x (by simp),←he y (by simp)];exact h
 case h_4=>exact h
 case h_5 t x=>rw[←he x (by simp)];exact h
 case h_6 t ps=>rw[←aei ps (λx hx=>he x.2 (by simp;exact⟨x.1,by simpa using hx⟩))];exact h
 case h_7 t n ps=>rw[←aei ps (λx hx=>he x.2 (by simp;exact⟨x.1,by simpa using hx⟩))];exact h
 case h_8 t x=>rw[←he x (by simp)];exact h
 case h_9 t x y=>rw[←he x (by simp),←he y (by simp)];exact h
 case h_10 x=>rw[←he x (by simp)];exact h
 case h_11 b t x y u=>rw[←he x (by simp),←he y (by simp)];exact h
 case h_12 u t x=>rw[←he x (by simp)];exact h
 case h_13 s t x=>rw[←he x (by simp)];exact h
 case h_14 f first cap=>rw[←hmap first (λx hx=>he x (by simp[hx])),←hmap cap (λx hx=>he x (by simp[hx]))];exact h
 case h_15 t l c=>rw[←he l (by simp),←he c (by simp)];exact h
 case h_16 t x lo hi=>
  rw[←he x (by simp)]
  have e1:lo.map ev=lo.map ev':=by cases lo<;>simp;exact he _ (by simp)
  have e2:hi.map ev=hi.map ev':=by cases hi<;>simp;exact he _ (by simp)
  rw[←e1,←e2];exact h
 case h_17 t x f=>rw[←he x (by simp)];exact h
 case h_18 t x f=>rw[←he x (by simp)];exact h
 case h_19 t x i=>rw[←he x (by simp),←he i (by simp)];exact h
 case h_20 t x i=>rw[←he x (by simp),←he i (by simp)];exact h
 case h_21 x i=>rw[←he x (by simp)];exact h
 case h_22 b args ts=>
  have ha:∀x∈args,ev x=ev' x:=λx hx=>he x (by simpa using hx)
  unfold fT at h ⊢
  split at h
  ·rename_i t x e1 e2
   rw[←ha x (by have:x∈args.toList:=by rw[e2];simp
                simpa using this)]
   exact h
  ·rename_i t u s x e1 e2
   rw[←ha s (by have:s∈args.toList:=by rw[e2];simp
                simpa using this),←ha x (by have:x∈args.toList:=by rw[e2];simp
                                            simpa using this)]
   exact h
  ·rw[←hmap args ha];exact h
  ·rw[←hmap args ha];exact h
  ·exact h.elim
 case h_23 f args ts=>
  rw[←he f (by simp),←hmap args (λx hx=>he x (by simp[hx]))];exact h
 case h_24=>exact h
 case h_25 t x ix ok=>rw[←he x (by simp),←he ix (by simp)];exact h
 case h_26 t x k v=>rw[←he x (by simp),←he k (by simp),←he v (by simp)];exact h
 case h_27 t x k v=>rw[←he x (by simp),←he k (by simp),←he v (by simp)];exact h
 case h_28 t x=>rw[←he x (by simp)];exact h
 case h_29 x=>rw[←he x (by simp)];exact h
 case h_30=>exact h.elim
end Lp
namespace Lp
open Go
def sF(base av:Nat→Prop)(V:Wz→Prop)(S:St)(blk:Nat→Option Nat)(a:Act)(w:World):Prop:=∃w0,V w0∧Rel base av w0 S blk a w
abbrev Env:=(Nat→Prop)→(Nat→Prop)→(Wz→Prop)→Prop
def PW(P:Program)(l:Option Nat)(E:Env)(c:Code)(Q:Exit→St→Prop)(S:St):Prop:=
 ∀(base av:Nat→Prop) (V:Wz→Prop),E base av V→∀(blk:Nat→Option Nat) (a:Act) (w:World),sF base av V S blk a w→
  c.wpIn (GZ l) 0 P (λe a' w'=>∃S' aA,Q e S'∧sF base av V S' aA a' w') a w
def Weak(m:Nat)(S S':St):Prop:=∀(base av:Nat→Prop) (w0:Wz) (blk:Nat→Option Nat) (a:Act) (w:World),w0.nx≤m→Rel base av w0 S blk a w→∃aA,Rel base av w0 S' aA a w
def thenS(next:St→Prop)(Q:Exit→St→Prop):Exit→St→Prop
 | .normal,S=>next S
 | e,S=>Q e S
def tT(id:Nat)(Q:Exit→St→Prop):Exit→St→Prop
 | .exit id',S=>if id'=id then Q .normal S else Q (.exit id') S
 | e,S=>Q e S
variable {P:Program}{D:TypeId→aH}{l:Option Nat}{E:Env}{Q:Exit→St→Prop}{S:St}
theorem PW.mono {c:Code}{Q':Exit→St→Prop}(h:PW P l E c Q S)(hq:∀e S,Q e S→Q' e S):PW P l E c Q' S:=
 λbase av V hE blk a w R=>wpIn_mono (h base av V hE blk a w R) λe _ _ ⟨S',aA,h1,h2⟩=>⟨S',aA,hq e S' h1,h2⟩
theorem PW.weak {c:Code}{S':St}{m:Nat}(hE:∀base av V,E base av V→∀w0,V w0→w0.nx≤m)(hw:Weak m S S')(h:PW P l E c Q S'):PW P l E c Q S:=
 λbase av V hE' blk a w ⟨w0,hV,R⟩=>let ⟨aA,R'⟩:=hw base av w0 blk a w (hE base av V hE' w0 hV) R;h base av V hE' aA a w ⟨w0,hV,R'⟩
theorem PW.skip (h:Q .normal S):PW P l E .skip Q S:=λ_ _ _ _ blk _ _ R=>wpIn_skip ⟨S,blk,h,R⟩
theorem PW.exit {id:Nat}(h:Q (.exit id) S):PW P l E (.exit id) Q S:=λ_ _ _ _ blk _ _ R=>wpIn_exit ⟨S,blk,h,R⟩
theorem PW.ret (h:Q .ret S):PW P l E .ret Q S:=λ_ _ _ _ blk _ _ R=>wpIn_ret ⟨S,blk,h,R⟩
theorem PW.seq {x y:Code}(h:PW P l E x (thenS (λS'=>PW P l E y Q S') Q) S):PW P l E (.seq x y) Q S:=by
 intro base av V hE blk a w R
 refine wpIn_seq (wpIn_mono (h base av V hE blk a w R) ?_)
 rintro e a' w' ⟨S',aA,h1,h2⟩
 cases e with
 | normal=>exact h1 base av V hE aA a' w' h2
 | _=>exact⟨S',aA,h1,h2⟩
theorem PW.block {id:Nat}{c:Code}(h:PW P l E c (tT id Q) S):PW P l E (.block id c) Q S:=by
 intro base av V hE blk a w R
 refine wpIn_block (wpIn_mono (h base av V hE blk a w R) ?_)
 rintro e a' w' ⟨S',aA,h1,h2⟩
 cases e with
 | exit id'=>
  simp only[Exit.inBlock,tT]at h1 ⊢
  split
  ·rename_i e;rw[if_pos e]at h1;exact⟨S',aA,h1,h2⟩
  ·rename_i e;rw[if_neg e]at h1;exact⟨S',aA,h1,h2⟩
 | _=>exact⟨S',aA,h1,h2⟩
def AQ(v:PV)(X Y:Prop):Prop:=
 match v with
 | .bool b=>(b=true→X)∧(b=false→Y)
 | _=>False
theorem PW.cond {c:Operand}{x y:Code}(h:AQ (S.ev c) (PW P l E x Q S) (PW P l E y Q S)):PW P l E (.cond c x y) Q S:=by
 intro base av V hE blk a w R
 have hc:=R.choose_spec.2.ev c
 unfold AQ at h
 split at h
 ·rename_i b e
  rw[e]at hc
  exact wpIn_cond_split hc.bool (λhb=>h.1 hb base av V hE blk a w R) (λhb=>h.2 hb base av V hE blk a w R)
 ·exact h.elim
def qb(ops:List Oper)(g:Option (Nat×Bool))(S:St)(X Y:St→Prop):Prop:=
 match g with
 | none=>X S
 | some (j,want)=>
  match (ops[j]?).bind (·.dst) with
  | none=>False
  | some d=>
   match S.tmps.getD d .dead with
   | .bool b=>(b=want→X { S with tmps:=S.tmps.set d (.bool want) })∧(b=!want→Y { S with tmps:=S.tmps.set d (.bool !want) })
   | .bY []=>Y S
   | _=>False
def rz(P:Program)(D:TypeId→aH)(own:Nat→Bool)(ops:List Oper):List Oper→Nat→St→List Nat→(St→List Nat→Prop)→Prop
 | [],_,S,ts,K=>K S ts
 | o::rest,i,S,ts,K=>
  qb ops o.guard S
   (λS=>KF P D (own i) S.ev S.objs o.op λr objs' t=>rz P D own ops rest (i+1) (St.put ⟨S.tmps,objs'⟩ o.dst r) (ts++[t]) K)
   (λS=>rz P D own ops rest (i+1) (S.put o.dst (.bY [])) (ts++[0]) K)
theorem zu(w:World)(ok:Nat→Prop)(objs:List Obj)(blk:Nat→Option Nat):aY w ok objs blk (.bY []) undef:=⟨[],rfl,rfl,λ_ _ _ h=>by simp at h⟩
theorem YO{base av:Nat→Prop}{w0:Wz}{blk:Nat→Option Nat}{a:Act}{w:World}(R:Rel base av w0 S blk a w)(d:Nat) :
  aY w (bZ base S.objs blk) S.objs blk (S.tmps.getD d .dead) (a.tmps.getD d undef):=R.ev (.tmp d)
theorem CK{xs:List PV}{d:Nat}{p:PV}(h:xs.getD d .dead=p)(hp:p≠.dead):xs.set d p=xs:=by
 by_cases hd:d<xs.length
 ·rw[List.getD_eq_getElem?_getD,List.getElem?_eq_getElem hd,Option.getD_some]at h
  subst h
  exact List.set_getElem_self hd
 ·rw[List.getD_eq_getElem?_getD,List.getElem?_eq_none (Nat.le_of_not_lt hd),Option.getD_none]at h
  exact absurd h.symm hp
theorem xX{ops:List Oper}{g:Option (Nat×Bool)}{X Y:St→Prop}{base av:Nat→Prop}{w0:Wz}{blk:Nat→Option Nat}{a:Act}{w:World}
  (R:Rel base av w0 S blk a w) (h:qb ops g S X Y) (o:Oper) (ho:o.guard=g) :
  (Region.wanted o (yielded ops.toArray a.tmps)=true∧X S)∨(Region.wanted o (yielded ops.toArray a.tmps)=false∧Y S):=by
 unfold qb at h
 split at h
 ·exact .inl ⟨by simp[Region.wanted,ho],h⟩
 ·rename_i j want
  split at h
  ·exact h.elim
  ·rename_i d hd
   have hy:yielded ops.toArray a.tmps j=(match a.tmps[d]? with | some (.bool b)=>some b | _=>none):=by
    have hd':(ops.toArray[j]?).bind (·.dst)=some d:=by simpa using hd
    unfold yielded
    rw[hd']
    rfl
   have hr:=YO R d
   split at h
   ·rename_i b hb
    rw[hb]at hr
    have hv:=hr.bool
    have hlt:d<a.tmps.size:=by
     rcases Nat.lt_or_ge d a.tmps.size with hh | hh
     ·exact hh
     ·rw[Array.getD_eq_getD_getElem?,Array.getElem?_eq_none hh]at hv
      simp[undef]at hv
    have hg:a.tmps[d]?=some (.bool b):=by
     rw[Array.getD_eq_getD_getElem?,Array.getElem?_eq_getElem hlt,Option.getD_some]at hv
     rw[Array.getElem?_eq_getElem hlt,hv]
    rw[hg]at hy
    simp only[]at hy
    by_cases hbw:b=want
    ·left
     have:=h.1 hbw
     rw[CK (by rw[hb,hbw]) (by simp)]at this
     exact⟨by simp[Region.wanted,ho,hy,hbw],this⟩
    ·right
     have hbn:b=!want:=by cases b<;>cases want<;>simp_all
     have:=h.2 hbn
     rw[CK (by rw[hb,hbn]) (by simp)]at this
     exact⟨by simp[Region.wanted,ho,hy,hbn],this⟩
   ·rename_i hb
    rw[hb]at hr
    right
    obtain⟨vs,hv,hl⟩:=hr
    have hvs:vs=[]:=List.eq_nil_of_length_eq_zero hl.1.symm
    subst hvs
    have hn:(match a.tmps[d]? with | some (.bool b)=>some b | _=>none)=none:=by
     rw[Array.getD_eq_getD_getElem?]at hv
     cases hx:a.tmps[d]? with
     | none=>rfl
     | some v=>rw[hx,Option.getD_some]at hv;subst hv;rfl
    rw[hn]at hy
    exact⟨by simp[Region.wanted,ho,hy],h⟩
   ·exact h.elim
theorem xY{own:Nat→Bool}{ops:List Oper}{Qm:Exit→Act→World→Prop}(hD:∀t,je P t (D t))(base av:Nat→Prop)(w0:Wz) :
  ∀(sw:List Oper) (k:Nat) (S:St) (ts:List Nat) (K:St→List Nat→Prop) (blk:Nat→Option Nat) (a:Act) (w:World),(∀j,sw[j]?=ops[k+j]?)→rz P D own ops sw k S ts K→Rel base av w0 S blk a w→
   (∀S' ts' aA a' w',K S' ts'→Rel base av w0 S' aA a' w'→Qm .normal a' w')→wpOpsIn (GZ l) 0 P ops.toArray Qm (List.range' k sw.length) a w
 | [],k,S,ts,K,blk,a,w,_,h,R,hq=>hq S ts blk a w h R
 | o::sw,k,S,ts,K,blk,a,w,hl,h,R,hq=>by
  have h0:ops.toArray[k]?=some o:=by simpa using (hl 0).symm
  have hl':∀j,sw[j]?=ops[k+1+j]?:=λj=>by have:=hl (j+1);simpa[Nat.add_assoc,Nat.add_comm 1 j] using this
  simp only[List.length_cons,List.range'_succ,wpOpsIn,h0]
  unfold rz at h
  rcases xX R h o rfl with ⟨hw,hx⟩ | ⟨hw,hy⟩
  ·rw[if_pos hw]
   exact CJ l hD R hx λr objs' t v w' aA hK R' hr=>xY hD base av w0 sw (k+1) _ _ K aA _ w' hl' hK (R'.put hr o.dst) hq
  ·rw[if_neg (by rw[hw];simp)]
   exact⟨λ_ _=>trivial,xY hD base av w0 sw (k+1) _ _ K blk _ w hl' hy (R.put (zu _ _ _ _) o.dst) hq⟩
theorem PW.region {id:Nat}{ops:List Oper}(own:Nat→Bool)(hD:∀t,je P t (D t))(h:rz P D own ops ops 0 S [] λS' _=>Q .normal S'):PW P l E (.region id ops.toArray false) Q S:=by
 intro base av V hE blk a w ⟨w0,hV,R⟩
 refine wpIn_region ?_
 have:=xY (l:=l) (Qm:=λe a' w'=>∃S' aA,Q e S'∧sF base av V S' aA a' w') hD base av w0 ops 0 S [] _ blk a w (λj=>by simp) h R (λS' ts' aA a' w' hK R'=>⟨S',aA,hK,w0,hV,R'⟩)
 rw[List.range_eq_range']
 simpa using this
end Lp
