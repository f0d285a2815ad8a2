/-
  Part 4 of what the statement rests on: LpS, LpY, LpU, LpGen, LpI1, LpC1, LpZ, LpEq, LpU2, LpC2, LpC4, LpC5, LpC6, LpC7, LpC8, LpC9, LpC10, LpC11, LpC12, LpC13, LpC14, LpC15, LpTA0, LpW1, LpW2, LpW3, LpW4, LpW8, LpW14, LpW15, LpW16, LpW17, LpW18, LpW19, LpX, LpUse, LpRes, LpW20, LpW23, LpW30, LpD1, LpD2, LpV5, LpLay, LpLib, LpD4, LpD5, LpV10, LpX1, LpD6, LpD9, LpD10, LpD11, LpD12, LpX2, LpD7, LpD8, LpD13, LpD3. No condition.
-/
import Derived.Test.YthmobaehdbiljaaGreatDoorLp3
import Derived.KernelRfl
import Derived.Test.YthmobaehdbiljaaGreatDoorProg
import Derived.Laws.StructEq
import Derived.Deep.Slices
import Derived.ChangeShapes
import Derived.SizedLaws
import Derived.Deep.DeepHandedRow
import Derived.JoinedOf
import Derived.Below
import Derived.Carry
import Derived.ChangeOld
import Derived.RowKit
import Derived.OpenShut
import Derived.Lib.ValidLaws
import Derived.Shelf.Strings.FuncGrows
import Derived.Lib.TrimByte
import Derived.Shelf.SlGeneric
import Derived.Ground.NamesProg
import Derived.Ground.Names8Prog
import Derived.Shelf.Strings.Trim
import Derived.Shelf.Sort.Plain
import Derived.Shelf.Slices.In.SortNone
import Derived.Shelf.Unicode.ValidAny
import Derived.Shelf.Spec.SlicesGrow
import Derived.Shelf.Strings.Repeat

set_option linter.all false
set_option maxHeartbeats 8000000
set_option maxRecDepth 100000
namespace Lp
open Go
variable {P:Program}{D:TypeId→ay}{T:Know}{objs ai:List Obj}{K:KT}
@[congr] theorem aae{ss:List Step}{S S':St}{ts ts':List Nat}{K:St→List Nat→Prop}(h:S=S')(h':ts=ts'):LR P D T ss S ts K=LR P D T ss S' ts' K:=by rw[h,h']
@[congr] theorem Zj{A A' B B':List Step}{u u':List Nat}{Q:Exit→St→Prop}{S S':St}(h:A=A')(h1:B=B')(h2:u=u')(h3:S=S'):ldK P D T A B u Q S=ldK P D T A' B' u' Q S':=by rw[h,h1,h2,h3]
@[congr] theorem VF{v v':PV}{d:Nat}{w:Bool}{S:St}{X Y:St→Prop}(h:v=v'):jS v d w S X Y=jS v' d w S X Y:=by rw[h]
@[congr] theorem Xh{v v':PV}{X Y:Prop}(h:v=v'):wB v X Y=wB v' X Y:=by rw[h]
@[congr] theorem Xi{c c' x x' y y':PV}(h1:c=c')(h2:x=x')(h3:y=y')(ho:objs=ai):rW c x y objs K=rW c' x' y' ai K:=by rw[h1,h2,h3,ho]
@[congr] theorem VG{t:TypeId}{ti Pt:ay}(h:ti=Pt)(ho:objs=ai):pE t ti objs K=pE t Pt ai K:=by rw[h,ho]
@[congr] theorem Yt{t:TypeId}{ti Pt:ay}{v v':PV}(h:ti=Pt)(h1:v=v')(ho:objs=ai):Hu t ti v objs K=Hu t Pt v' ai K:=by rw[h,h1,ho]
@[congr] theorem VH{t:TypeId}{ps ps':List (Nat×PV)}(h:ps=ps')(ho:objs=ai):cO D t ps objs K=cO D t ps' ai K:=by rw[h,ho]
@[congr] theorem Pv{own:Bool}{t:TypeId}{n:Nat}{ps ps':List (Nat×PV)}(h:ps=ps')(ho:objs=ai):bB D own t n ps objs K=bB D own t n ps' ai K:=by rw[h,ho]
@[congr] theorem Xj{ti Pt:ay}{p p':PV}(h:ti=Pt)(h1:p=p')(ho:objs=ai):dK ti p objs K=dK Pt p' ai K:=by rw[h,h1,ho]
@[congr] theorem VI{ti Pt:ay}{p p' v v':PV}(h:ti=Pt)(h1:p=p')(h2:v=v')(ho:objs=ai):iq ti p v objs K=iq Pt p' v' ai K:=by rw[h,h1,h2,ho]
@[congr] theorem Sj{x x':PV}(h:x=x')(ho:objs=ai):bX x objs K=bX x' ai K:=by rw[h,ho]
@[congr] theorem Yu{ti Pt:ay}{t:TypeId}{b:BinOp}{x x' y y':PV}{K:PV→Prop}(h:ti=Pt)(h1:x=x')(h2:y=y'):nQ P ti t b x y K=nQ P Pt t b x' y' K:=by rw[h,h1,h2]
@[congr] theorem Zk{u:UnOp}{x x':PV}{K:PV→Prop}(h:x=x'):JF u x K=JF u x' K:=by rw[h]
@[congr] theorem Xk{s s' d d':ay}{x x':PV}{K:PV→Prop}(h:s=s')(h1:d=d')(h2:x=x'):nR s d x K=nR s' d' x' K:=by rw[h,h1,h2]
@[congr] theorem Sk{f:FuncId}{a a' c c':List PV}(h:a=a')(h1:c=c')(ho:objs=ai):jg f a c objs K=jg f a' c' ai K:=by rw[h,h1,ho]
@[congr] theorem QZ{t:TypeId}{l l' c c':PV}(h:l=l')(h1:c=c')(ho:objs=ai):dJ D t l c objs K=dJ D t l' c' ai K:=by rw[h,h1,ho]
@[congr] theorem VJ{t:TypeId}{x x':PV}{lo lo' hi hi':Option PV}(h:x=x')(h1:lo=lo')(h2:hi=hi')(ho:objs=ai):gu D t x lo hi objs K=gu D t x' lo' hi' ai K:=by rw[h,h1,h2,ho]
@[congr] theorem Q0{t:TypeId}{x x':PV}{f:Nat}(h:x=x')(ho:objs=ai):aN D t x f objs K=aN D t x' f ai K:=by rw[h,ho]
@[congr] theorem VK{t:TypeId}{x x':PV}{f:Nat}(h:x=x')(ho:objs=ai):mq D t x f objs K=mq D t x' f ai K:=by rw[h,ho]
@[congr] theorem Q5{t:TypeId}{x x' i i':PV}(h:x=x')(h1:i=i')(ho:objs=ai):aZ D t x i objs K=aZ D t x' i' ai K:=by rw[h,h1,ho]
@[congr] theorem VL{t:TypeId}{x x' i i':PV}(h:x=x')(h1:i=i')(ho:objs=ai):jN D t x i objs K=jN D t x' i' ai K:=by rw[h,h1,ho]
@[congr] theorem TD{x x':PV}{i:Nat}(h:x=x')(ho:objs=ai):bL x i objs K=bL x' i ai K:=by rw[h,ho]
@[congr] theorem Yv{t:TypeId}{x x':PV}(h:x=x')(ho:objs=ai):oI D t x objs K=oI D t x' ai K:=by rw[h,ho]
@[congr] theorem U2{t u:TypeId}{s s' x x':PV}(h:s=s')(h1:x=x')(ho:objs=ai):dh D t u s x objs K=dh D t u s' x' ai K:=by rw[h,h1,ho]
@[congr] theorem U3{b:Bool}{xs xs':List PV}{K:PV→Prop}(h:xs=xs'):fH b xs K=fH b xs' K:=by rw[h]
@[congr] theorem Xl{pt pt':Bool}{f f':PV}{args args':List PV}(hp:pt=pt')(h:f=f')(h1:args=args')(ho:objs=ai):mR T pt f args objs K=mR T pt' f' args' ai K:=by rw[hp,h,h1,ho]
@[congr] theorem Xm{pl:Nat→Option (Nat×Nat)}{cs cs':List PV}{ps:List (Nat×PV)}{K:List PV→Prop}(h:cs=cs'):mO pl cs ps K=mO pl cs' ps K:=by rw[h]
@[congr] theorem VN{x x':Option PV}{d d':Int}{K:Int→Prop}(h:x=x')(h1:d=d'):bR x d K=bR x' d' K:=by rw[h,h1]
@[congr] theorem Zl{C:LC}{Q:Exit→St→Prop}{S S':St}(h:S=S'):gY P D T C Q S=gY P D T C Q S':=by rw[h]
theorem bA{ks:List Bool}{fz:Option (Nat×Nat)}{c:LC}{Q:Exit→St→Prop}{S:St}(I:Nat→St→Prop)(m:Nat)(h0:I m (S.norm ks fz))
  (hr:∀m S,I m S→gY P D T c (thenS (λS'=>∃m',m'<m∧I m' (S'.norm ks fz)) Q) S) (hz:zY T.nx fz:=by exact trivial):gY P D T (.loop ks fz c) Q S:=⟨hz,I,⟨_,m,Weak.norm ks fz hz S,h0⟩,hr⟩
theorem aY{c:LC}{Q:Exit→St→Prop}{S:St}(S':St)(hw:Weak T.nx S S')(h:gY P D T c Q S'):gY P D T (.weak c) Q S:=⟨S',hw,h⟩
theorem wW{f:Operand}{ps:List Nat}{fz:Option (Nat×Nat)}{x y:LC}{Q:Exit→St→Prop}{S:St}(g:FuncId)(cap:List PV)(ys:List (List PV))(I:Nat→List Obj→Prop)(ht:T.top=true)
  (hf:S.ev f=.fn g [] cap) (hc:cap.all PV.pure=true) (hz:zY S.objs.length fz) (hg:T.gives g cap ys) (hy:∀y∈ys,y.length=ps.length) (h0:I 0 S.objs) (hl:∀i objs,I i objs→S.objs.length≤objs.length∧bq objs)
  (hr:∀i args objs,I i objs→ys[i]?=some args→gY P D (T.inner S.objs.length) x (thenS (λS1=>gY P D (T.inner S.objs.length) y (Dg fz (I (i+1))) S1) (λ_ _=>False)) ⟨iI ps args S.tmps,objs⟩)
  (he:∀objs,I ys.length objs→Q .normal ⟨S.tmps,objs⟩):gY P D T (.rf f ps fz x y) Q S:=⟨ht,.inl ⟨g,cap,ys,hf,hc,hg,hy,.inl ⟨I,hz,h0,hl,hr,he⟩⟩⟩
theorem VO{f:Operand}{ps:List Nat}{fz:Option (Nat×Nat)}{x y:LC}{Q:Exit→St→Prop}{S:St}(g:FuncId)(cap:List PV)(ys:List (List PV))(I J:Nat→List Obj→Prop)(lv:Exit){lc:Code}(hlv:wU lv=some lc)(ht:T.top=true)
  (hf:S.ev f=.fn g [] cap) (hc:cap.all PV.pure=true) (hz:zY (S.objs.length+2) fz) (hg:T.gives g cap ys) (hy:∀y∈ys,y.length=ps.length) (h0:I 0 (S.objs++[sD,hole])) (hl:∀i objs,I i objs→Gh S.objs.length objs)
  (hj:∀i objs,J i objs→Gh S.objs.length objs∧bg objs)
  (hr:∀i args objs,I i objs→ys[i]?=some args→gY P D (T.inner (S.objs.length+2)) x (thenS (λS1=>gY P D (T.inner (S.objs.length+2)) y (yB fz (I (i+1)) lv (J i)) S1) (λ_ _=>False)) ⟨iI ps args S.tmps,objs⟩)
  (he:∀objs,I ys.length objs→Q .normal ⟨S.tmps,objs⟩) (hv:∀i objs,i<ys.length→J i objs→Q lv ⟨S.tmps,eD S.objs.length objs⟩):gY P D T (.rf f ps fz x y) Q S:=
 ⟨ht,.inl ⟨g,cap,ys,hf,hc,hg,hy,.inr (.inl ⟨I,J,lv,lc,hlv,hz,h0,hl,hj,hr,he,hv⟩)⟩⟩
theorem VP{f:Operand}{ps:List Nat}{fz:Option (Nat×Nat)}{x y:LC}{Q:Exit→St→Prop}{S:St}(g:FuncId)(cap:List PV)(ys:List (List PV))(I:Nat→List Obj→Prop)(ht:T.top=true)
  (hf:S.ev f=.fn g [] cap) (hc:cap.all PV.pure=true) (hz:zY S.objs.length fz) (hg:T.ge g cap ys) (hy:∀y∈ys,y.length=ps.length) (h0:I 0 S.objs) (hl:∀i objs,I i objs→S.objs.length=objs.length∧bq objs)
  (hr:∀i args objs,I i objs→ys[i]?=some args→gY P D (T.inner S.objs.length) x (thenS (λS1=>gY P D (T.inner S.objs.length) y (Dg fz (I (i+1))) S1) (λ_ _=>False)) ⟨iI ps args S.tmps,objs⟩)
  (he:∀objs,I ys.length objs→Q .normal ⟨S.tmps,objs⟩):gY P D T (.rf f ps fz x y) Q S:=⟨ht,.inr ⟨g,cap,ys,I,hf,hc,hg,hy,hz,h0,hl,hr,he⟩⟩
theorem VQ{f:Operand}{ps:List Nat}{fz:Option (Nat×Nat)}{x y:LC}{Q:Exit→St→Prop}{S:St}(g:FuncId)(cap:List PV)(ys:List (List PV))(I J:Nat→List Obj→Prop)(lv:Exit){lc:Code}(hlv:wU lv=some lc)(ht:T.top=true)
  (hb:T.bb=true) (hbn:T.bn≤S.objs.length) (hbt:∀p∈S.tmps,p.ge T.bn=true) (hbx:T.nx≤S.objs.length)
  (hf:S.ev f=.fn g [] cap) (hc:cap.all PV.pure=true) (hz:zY (S.objs.length+2) fz) (hg:T.gives g cap ys) (hy:∀y∈ys,y.length=ps.length) (h0:I 0 (S.objs++[sD,hole])) (hl:∀i objs,I i objs→Gh S.objs.length objs)
  (hj:∀i objs,J i objs→Gh S.objs.length objs∧bg objs)
  (hr:∀i args objs,I i objs→ys[i]?=some args→gY P D (T.mE (S.objs.length+2)) x (thenS (λS1=>gY P D (T.mE (S.objs.length+2)) y (yB fz (I (i+1)) lv (J i)) S1) (λ_ _=>False)) ⟨iI ps args S.tmps,objs⟩)
  (he:∀objs,I ys.length objs→Q .normal ⟨S.tmps,objs⟩) (hv:∀i objs,i<ys.length→J i objs→Q lv ⟨S.tmps,eD S.objs.length objs⟩):gY P D T (.rf f ps fz x y) Q S:=
 ⟨ht,.inl ⟨g,cap,ys,hf,hc,hg,hy,.inr (.inr ⟨hb,hbn,hbt,hbx,I,J,lv,lc,hlv,hz,h0,hl,hj,hr,he,hv⟩)⟩⟩
theorem Nt(d n:Nat)(objs:List Obj) :
  (∀k m,iH d n objs (.int k m)=.int k m)∧(∀b,iH d n objs (.bool b)=.bool b)∧(∀s,iH d n objs (.str s)=.str s)∧(∀sz xs q,iH d n objs (.sl sz xs q)=.sl sz xs q)∧(∀x,iH d n objs (.addr x)=.addr x)∧
  (iH d n objs .dead=.dead)∧
  (∀cs,iH d n objs (.agg cs)=.agg (cs.map (fB d n objs)))∧(∀cs,iH d n objs (.bP cs)=.bP (cs.map (fB d n objs)))∧
  (∀k m,fB d n objs (.int k m)=.int k m)∧(∀b,fB d n objs (.bool b)=.bool b)∧(∀s,fB d n objs (.str s)=.str s)∧(∀sz xs q,fB d n objs (.sl sz xs q)=.sl sz xs q)∧(∀x,fB d n objs (.addr x)=.addr x)∧(fB d n objs .dead=.dead):=
 ⟨λ_ _=>rfl,λ_=>rfl,λ_=>rfl,λ_ _ _=>rfl,λ_=>rfl,rfl,λ_=>rfl,λ_=>rfl,λ_ _=>rfl,λ_=>rfl,λ_=>rfl,λ_ _ _=>rfl,λ_=>rfl,rfl⟩
theorem yG(d:Nat)(rs:List ResultVar)(r:PV)(S:St) :
  (QT D d rs r .ret S=ku D S rs λps=>r=gK (ps.map (iH d 0 S.objs)))∧(QT D d rs r .normal S=ku D S rs λps=>r=gK (ps.map (iH d 0 S.objs))):=by
 constructor<;>simp[QT]
theorem Gy(d t:Nat)(o:Obj)(S:St) :
  (Ns d t o .ret S=∃S' k ver o0,Weak 0 S S'∧S'.tmps.getD t .dead=.aW k ver∧S'.objs[k]?=some o0∧o0.live=true∧o0.ver=ver∧{ eO d (k+1) S'.objs o0 with ver:=0 }=o∧bg [o])∧
  (Ns d t o .normal S=∃S' k ver o0,Weak 0 S S'∧S'.tmps.getD t .dead=.aW k ver∧S'.objs[k]?=some o0∧o0.live=true∧o0.ver=ver∧{ eO d (k+1) S'.objs o0 with ver:=0 }=o∧bg [o]):=by
 constructor<;>simp[Ns]
theorem z_:(∀(x p:PV) l n,(x::l).set (n+1) p=x::l.set n p)∧(∀(x p:PV) l,(x::l).set 0 p=p::l)∧(∀(x:PV) l n d,(x::l).getD (n+1) d=l.getD n d)∧(∀(x:PV) l d,(x::l).getD 0 d=x)∧
  (∀(x:PV) l m,(x::l)++m=x::(l++m))∧(∀m:List PV,[]++m=m)∧(∀n (x:PV),List.replicate (n+1) x=x::List.replicate n x)∧(∀(x:PV),List.replicate 0 x=[])∧(∀(x:PV) l,(x::l).length=l.length+1)∧(([]:List PV).length=0)∧
  (∀(f:Operand→PV) x l,(x::l).map f=f x::l.map f)∧(∀(f:Operand→PV),[].map f=[])∧
  (∀(f:Nat×Operand→Nat×PV) x l,(x::l).map f=f x::l.map f)∧(∀(f:Nat×Operand→Nat×PV),[].map f=[])∧
  (∀(f:PV→PV) x l,(x::l).map f=f x::l.map f)∧(∀(f:PV→PV),[].map f=[])∧
  (∀(f:Operand→PV) x,(some x).map f=some (f x))∧(∀(f:Operand→PV),none.map f=none)∧
  (∀(x:Nat) l m,(x::l)++m=x::(l++m))∧(∀m:List Nat,[]++m=m)∧
  (∀n l,mkT n l=l.foldl (λtm x=>tm.set x.1 x.2) (List.replicate n .dead))∧
  (∀(f:List PV→Nat×PV→List PV) x l i,(x::l).foldl f i=l.foldl f (f i x))∧(∀(f:List PV→Nat×PV→List PV) i,[].foldl f i=i):=
 ⟨λ_ _ _ _=>rfl,λ_ _ _=>rfl,λ_ _ _ _=>rfl,λ_ _ _=>rfl,λ_ _ _=>rfl,λ_=>rfl,λ_ _=>rfl,λ_=>rfl,λ_ _=>rfl,rfl,λ_ _ _=>rfl,λ_=>rfl,
  λ_ _ _=>rfl,λ_=>rfl,λ_ _ _=>rfl,λ_=>rfl,λ_ _=>rfl,λ_=>rfl,λ_ _ _=>rfl,λ_=>rfl,λ_ _=>rfl,λ_ _ _ _=>rfl,λ_ _=>rfl⟩
theorem Xn:(∀ks x (l:List PV),vS (true::ks) (x::l)=x::vS ks l)∧(∀ks x (l:List PV),vS (false::ks) (x::l)=.dead::vS ks l)∧(∀ks,vS ks []=[])∧(∀ks (S:St),S.norm ks none=S.forget ks)∧(∀ks tm ob,St.forget ks ⟨tm,ob⟩=⟨vS ks tm,ob⟩):=
 ⟨λ_ _ _=>rfl,λ_ _ _=>rfl,λks=>by cases ks<;>rfl,λ_ _=>rfl,λ_ _ _=>rfl⟩
theorem Sl(ti:ay)(t:TypeId)(K:PV→Prop) :
  (∀b k x y,nQ P ti t b (.int k x) (.int k y) K=pz b k k x y K)∧
  (∀b x y,nQ P ti t b (.str x) (.str y) K=gP b x y K)∧
  (∀x y,nQ P ti t .eql (.bool x) (.bool y) K=(ti.kind=.bool∧K (.bool (x==y))))∧
  (∀x y,nQ P ti t .neq (.bool x) (.bool y) K=(ti.kind=.bool∧K (.bool (!(x==y)))))∧
  (∀x y,nQ P ti t .eql (.agg x) (.agg y) K=(MP P t x y∧∃r,MO x y=some r∧K (.bool r)))∧
  (∀x y,nQ P ti t .neq (.agg x) (.agg y) K=(MP P t x y∧∃r,MO x y=some r∧K (.bool (!r))))∧
  (∀s x q s' x',nQ P ti t .eql (.sl s x (some q)) (.sl s' x' (some true)) K=((∃e,ti.kind=.slice e)∧K (.bool q)))∧
  (∀s x q s' x',nQ P ti t .neq (.sl s x (some q)) (.sl s' x' (some true)) K=((∃e,ti.kind=.slice e)∧K (.bool (!q)))):=
 ⟨λ_ _ _ _=>rfl,λ_ _ _=>rfl,λ_ _=>rfl,λ_ _=>rfl,λ_ _=>rfl,λ_ _=>rfl,λ_ _ _ _ _=>rfl,λ_ _ _ _ _=>rfl⟩
theorem Pw(k:IntKind)(a b:Int)(K:PV→Prop) :
  (pz .add k k a b K=(FW k (a+b)∧K (.int k (a+b))))∧(pz .sub k k a b K=(FW k (a-b)∧K (.int k (a-b))))∧(pz .mul k k a b K=(FW k (a*b)∧K (.int k (a*b))))∧
  (pz .quo k k a b K=(b≠0∧FW k (a.tdiv b)∧K (.int k (a.tdiv b))))∧(pz .rem k k a b K=(b≠0∧K (.int k (a.tmod b))))∧
  (pz .eql k k a b K=K (.bool (decide (a=b))))∧(pz .neq k k a b K=K (.bool (!decide (a=b))))∧(pz .lss k k a b K=K (.bool (decide (a<b))))∧(pz .leq k k a b K=K (.bool (decide (a≤b))))∧
  (pz .gtr k k a b K=K (.bool (decide (b<a))))∧(pz .geq k k a b K=K (.bool (decide (b≤a)))):=by
 refine⟨?_,?_,?_,?_,?_,?_,?_,?_,?_,?_,?_⟩<;>simp[pz]
theorem Dr(a:Int):(FW .i64 a=(-9223372036854775808≤a∧a≤9223372036854775807))∧(FW .u8 a=(0≤a∧a≤255)):=⟨rfl,rfl⟩
theorem fE(ev:Operand→PV):(∀t x,dH D .len [t] [x] ev objs K=oI D t (ev x) objs K)∧(∀t u s x,dH D .append [t,u] [s,x] ev objs K=dh D t u (ev s) (ev x) objs K)∧
  (∀ts xs,dH D .max ts xs ev objs K=fH true (xs.map ev) λr=>K r objs 0)∧(∀ts xs,dH D .min ts xs ev objs K=fH false (xs.map ev) λr=>K r objs 0):=
 ⟨λ_ _=>rfl,λ_ _ _ _=>rfl,λ_ _=>rfl,λ_ _=>rfl⟩
theorem Dt{α:Type}(l:List α)(f:α→PV)(n:Nat)(q:PV→Prop):(∃y,(l.map f)[n]?=some y∧q y)=∃x,l[n]?=some x∧q (f x):=by
 apply propext
 constructor
 ·rintro⟨y,h,hq⟩
  rw[List.getElem?_map]at h
  cases hx:l[n]? with
  | none=>rw[hx]at h;simp at h
  | some x=>rw[hx]at h;simp only[Option.map_some,Option.some.injEq]at h;exact⟨x,rfl,h ▸ hq⟩
 ·rintro⟨x,h,hq⟩
  exact⟨f x,by rw[List.getElem?_map,h];rfl,hq⟩
theorem KC{α:Type}(a:α)(l:List α)(q:α→Prop):((∃x,(a::l)[0]?=some x∧q x)=q a)∧(∀n,(∃x,(a::l)[n+1]?=some x∧q x)=∃x,l[n]?=some x∧q x):=by
 refine⟨propext ⟨?_,λh=>⟨a,rfl,h⟩⟩,λn=>rfl⟩
 rintro⟨x,h,hq⟩
 simp only[List.getElem?_cons_zero,Option.some.injEq]at h
 exact h ▸ hq
theorem KD:(∀s b z,ay.agg ⟨.str,s,b,z⟩=false)∧(∀k s b z,ay.agg ⟨.int k,s,b,z⟩=false)∧(∀s b z,ay.agg ⟨.bool,s,b,z⟩=false)∧(∀e s b z,ay.agg ⟨.slice e,s,b,z⟩=false)∧(∀s b z,ay.agg ⟨.other,s,b,z⟩=false)∧
  (∀fs s b z,ay.agg ⟨.struct fs,s,b,z⟩=true)∧(∀n e s b z,ay.agg ⟨.array n e,s,b,z⟩=true):=⟨λ_ _ _=>rfl,λ_ _ _ _=>rfl,λ_ _ _=>rfl,λ_ _ _ _=>rfl,λ_ _ _=>rfl,λ_ _ _ _=>rfl,λ_ _ _ _ _=>rfl⟩
theorem tH(cs:List PV)(o n:Nat):(sub cs o n false=cs.getD o .dead)∧(sub cs o n true=.agg ((cs.drop o).take n)):=⟨rfl,rfl⟩
theorem Ip:(∀k n,PV.isAgg (.int k n)=false)∧(∀b,PV.isAgg (.bool b)=false)∧(∀s,PV.isAgg (.str s)=false)∧(∀s x q,PV.isAgg (.sl s x q)=false)∧(∀cs,PV.isAgg (.agg cs)=true)∧(∀k v,PV.isAgg (.aW k v)=false)∧(∀k v i f,PV.isAgg (.aT k v i f)=false)∧(∀x,PV.isAgg (.addr x)=false)∧(PV.isAgg .xZ=false)∧
  (∀k n,PV.cells (.int k n)=[.int k n])∧(∀b,PV.cells (.bool b)=[.bool b])∧(∀s,PV.cells (.str s)=[.str s])∧(∀s x q,PV.cells (.sl s x q)=[.sl s x q])∧(∀cs,PV.cells (.agg cs)=cs)∧(∀k v,PV.cells (.aW k v)=[.aW k v])∧(∀k v i f,PV.cells (.aT k v i f)=[.aT k v i f])∧(∀x,PV.cells (.addr x)=[.addr x]):=
 ⟨λ_ _=>rfl,λ_=>rfl,λ_=>rfl,λ_ _ _=>rfl,λ_=>rfl,λ_ _=>rfl,λ_ _ _ _=>rfl,λ_=>rfl,rfl,λ_ _=>rfl,λ_=>rfl,λ_=>rfl,λ_ _ _=>rfl,λ_=>rfl,λ_ _=>rfl,λ_ _ _ _=>rfl,λ_=>rfl⟩
theorem Iq:(∀(f:PV→Bool) x l,(x::l).all f=(f x && l.all f))∧(∀f:PV→Bool,[].all f=true)∧(∀(x:PV) l n,(x::l).take (n+1)=x::l.take n)∧(∀l:List PV,l.take 0=[])∧(∀(x:PV) l n,(x::l).drop (n+1)=l.drop n)∧(∀l:List PV,l.drop 0=l)∧(∀n,([]:List PV).take n=[])∧(∀n,([]:List PV).drop n=[]):=
 ⟨λ_ _ _=>rfl,λ_=>rfl,λ_ _ _=>rfl,λ_=>by simp,λ_ _ _=>rfl,λ_=>rfl,λ_=>by simp,λ_=>by simp⟩
theorem Yw(d n:Nat)(objs:List Obj):(∀k v,iH d n objs (.aW k v)=fB d n objs (.aW k v))∧(∀k v i f,iH d n objs (.aT k v i f)=fB d n objs (.aT k v i f))∧(∀l,iH d n objs (.oF l)=.oF l)∧
  (∀f a c,iH d n objs (.fn f a c)=.fn f (a.map (fB d n objs)) (c.map (fB d n objs))):=⟨λ_ _=>rfl,λ_ _ _ _=>rfl,λ_=>rfl,λ_ _ _=>rfl⟩
theorem puR:(∀k n,PV.pure (.int k n)=true)∧(∀b,PV.pure (.bool b)=true)∧(∀s,PV.pure (.str s)=true)∧(∀s x q,PV.pure (.sl s x q)=true)∧(∀x,PV.pure (.addr x)=true)∧(PV.pure .dead=true)∧(∀l,PV.pure (.oF l)=true):=
 ⟨λ_ _=>rfl,λ_=>rfl,λ_=>rfl,λ_ _ _=>rfl,λ_=>rfl,rfl,λ_=>rfl⟩
theorem wE{d n:Nat}{objs:List Obj}{k v i f:Nat}(h:n≤k):(fB d n objs (.aT k v i f)).pure=true:=by
 simp only[fB,if_neg (Nat.not_lt.2 h)]
 cases d<;>simp only[kr]
 ·rfl
 ·split
  ·split
   ·split<;>rfl
   ·rfl
  ·rfl
theorem Du{α β:Type}(a:α)(l:List α)(q:α→β→Prop):((∃x y,(a::l)[0]?=some x∧q x y)=∃y,q a y)∧(∀n,(∃x y,(a::l)[n+1]?=some x∧q x y)=∃x y,l[n]?=some x∧q x y):=by
 refine⟨propext ⟨?_,λ⟨y,h⟩=>⟨a,y,rfl,h⟩⟩,λn=>rfl⟩
 rintro⟨x,y,h,hq⟩
 simp only[List.getElem?_cons_zero,Option.some.injEq]at h
 exact⟨y,h ▸ hq⟩
theorem TF:(∀(x p:Obj) l n,(x::l).set (n+1) p=x::l.set n p)∧(∀(x p:Obj) l,(x::l).set 0 p=p::l)∧(∀(x:Obj) l m,(x::l)++m=x::(l++m))∧(∀m:List Obj,[]++m=m)∧(∀(x:Obj) l,(x::l).length=l.length+1)∧(([]:List Obj).length=0):=
 ⟨λ_ _ _ _=>rfl,λ_ _ _=>rfl,λ_ _ _=>rfl,λ_=>rfl,λ_ _=>rfl,rfl⟩
end Lp
namespace Lp
open Go
def wX(b:Bool)(X Y:Prop):Prop:=(b=true→X)∧(b=false→Y)
@[congr] theorem Zm{b b':Bool}{X Y:Prop}(h:b=b'):wX b X Y=wX b' X Y:=by rw[h]
theorem Yx :
  (∀X Y,wX true X Y=X)∧(∀X Y,wX false X Y=Y)∧
  (∀(p:Prop) [Decidable p] X Y,wX (decide p) X Y=((p→X)∧(¬ p→Y)))∧
  (∀b X Y,wX (!b) X Y=wX b Y X)∧
  (∀a b X Y,wX (a && b) X Y=wX a (wX b X Y) Y)∧
  (∀a b X Y,wX (a || b) X Y=wX a X (wX b X Y))∧
  (∀(x y:List UInt8) X Y,wX (x==y) X Y=((x=y→X)∧(x≠y→Y)))∧
  (∀(x y:Bool) X Y,wX (x==y) X Y=((x=y→X)∧(x≠y→Y))):=by
 refine⟨λX Y=>?_,λX Y=>?_,λp _ X Y=>?_,λb X Y=>?_,λa b X Y=>?_,λa b X Y=>?_,λx y X Y=>?_,λx y X Y=>?_⟩
 ·simp[wX]
 ·simp[wX]
 ·simp[wX]
 ·cases b<;>simp[wX]
 ·cases a<;>simp[wX]
 ·cases a<;>simp[wX]
 ·simp[wX]
 ·simp[wX]
theorem aaf :
  (∀(n:St→Prop) (Q:Exit→St→Prop) S,thenS n Q .normal S=n S)∧
  (∀(n:St→Prop) (Q:Exit→St→Prop) S,thenS n Q .ret S=Q .ret S)∧
  (∀(n:St→Prop) (Q:Exit→St→Prop) S id,thenS n Q (.exit id) S=Q (.exit id) S)∧
  (∀(Q:Exit→St→Prop) S id,pF id Q .normal S=Q .normal S)∧
  (∀(Q:Exit→St→Prop) S id,pF id Q .ret S=Q .ret S)∧
  (∀(Q:Exit→St→Prop) S id id',pF id Q (.exit id') S=if id'=id then Q .normal S else Q (.exit id') S)∧
  (∀b X Y,wB (.bool b) X Y=wX b X Y):=
 ⟨λ_ _ _=>rfl,λ_ _ _=>rfl,λ_ _ _ _=>rfl,λ_ _ _=>rfl,λ_ _ _=>rfl,λ_ _ _ _=>rfl,λ_ _ _=>rfl⟩
theorem aag :
  (∀(S:St) (X Y:St→Prop),sZ none S X Y=X S)∧
  (∀d w (S:St) (X Y:St→Prop),sZ (some (some d,w)) S X Y=jS (S.tmps.getD d .dead) d w S X Y)∧
  (∀b d (S:St) (X Y:St→Prop),jS (.bool b) d true S X Y=wX b (X { S with tmps:=S.tmps.set d (.bool true) }) (Y { S with tmps:=S.tmps.set d (.bool false) }))∧
  (∀b d (S:St) (X Y:St→Prop),jS (.bool b) d false S X Y=wX b (Y { S with tmps:=S.tmps.set d (.bool true) }) (X { S with tmps:=S.tmps.set d (.bool false) }))∧
  (∀d w (S:St) (X Y:St→Prop),jS (.bP []) d w S X Y=Y S):=
 ⟨λ_ _ _=>rfl,λ_ _ _ _ _=>rfl,λ_ _ _ _ _=>rfl,λb _ _ _ _=>by cases b<;>simp[jS,wX],λ_ _ _ _ _=>rfl⟩
structure HQ (C:LC) (Q:Exit→St→Prop):Type where
def Yy(P:Program)(D:TypeId→ay)(T:Know){C:LC}{Q:Exit→St→Prop}(_h:HQ C Q)(S:St):Prop:=gY P D T C Q S
theorem hoR(P:Program)(D:TypeId→ay)(T:Know) :
  (∀ks fz c (Q:Exit→St→Prop) S,gY P D T (.loop ks fz c) Q S=Yy P D T (HQ.mk:HQ (.loop ks fz c) Q) S)∧
  (∀c (Q:Exit→St→Prop) S,gY P D T (.weak c) Q S=Yy P D T (HQ.mk:HQ (.weak c) Q) S)∧
  (∀f ps fz x y (Q:Exit→St→Prop) S,gY P D T (.rf f ps fz x y) Q S=Yy P D T (HQ.mk:HQ (.rf f ps fz x y) Q) S):=
 ⟨λ_ _ _ _ _=>rfl,λ_ _ _=>rfl,λ_ _ _ _ _ _ _=>rfl⟩
def qQ:List (Nat×PV)→Nat→PV
 | [],_=>.dead
 | (j,p)::l,i=>if i=j then p else qQ l i
def dR(n:Nat)(l:List (Nat×PV)):List PV:=(List.range n).map (qQ l)
theorem lK(n:Nat)(l:List (Nat×PV)):(dR n l).length=n:=by simp[dR]
theorem vo(n:Nat)(l:List (Nat×PV))(i:Nat):(dR n l)[i]?=if i<n then some (qQ l i) else none:=by
 simp only[dR,List.getElem?_map]
 split
 ·rename_i h;rw[List.getElem?_range h];rfl
 ·rename_i h;rw[List.getElem?_eq_none (by simpa using h)];rfl
theorem yH{n:Nat}{l:List (Nat×PV)}{m:List PV}(hm:m.length=n)(h:∀i,i<n→m[i]?=some (qQ l i)):m=dR n l:=by
 refine List.ext_getElem? λi=>?_
 rw[vo]
 split
 ·rename_i hi;exact h i hi
 ·rename_i hi;exact List.getElem?_eq_none (by omega)
def KE(d n:Nat)(objs:List Obj):List (Nat×PV)→List (Nat×PV)
 | []=>[]
 | (j,p)::l=>(j,iH d n objs p)::KE d n objs l
def Zn(ks:List Bool):List (Nat×PV)→List (Nat×PV)
 | []=>[]
 | (j,p)::l=>if ks[j]?=some true then (j,p)::Zn ks l else Zn ks l
theorem Px(d n:Nat)(objs:List Obj):∀(l:List (Nat×PV)) i,qQ (KE d n objs l) i=iH d n objs (qQ l i)
 | [],i=>by simp[qQ,KE,iH,fB]
 | (j,p)::l,i=>by
  simp only[qQ,KE]
  split
  ·rfl
  ·exact Px d n objs l i
theorem TG(ks:List Bool):∀(l:List (Nat×PV)) i,qQ (Zn ks l) i=if ks[i]?=some true then qQ l i else .dead
 | [],i=>by simp[qQ,Zn]
 | (j,p)::l,i=>by
  have ih:=TG ks l i
  simp only[Zn]
  split
  ·rename_i h
   simp only[qQ]
   by_cases hij:i=j
   ·subst hij;simp[h]
   ·simp only[hij,if_false,ih]
  ·rename_i h
   rw[ih]
   by_cases hij:i=j
   ·subst hij;simp[h]
   ·simp[qQ,hij]
theorem tJ:∀(ks:List Bool) (l:List PV) (i:Nat),(vS ks l)[i]?=l[i]?.map λp=>if ks[i]?=some true then p else .dead
 | ks,[],i=>by cases ks<;>simp[vS]
 | [],p::ps,0=>by simp[vS]
 | [],p::ps,i+1=>by simpa[vS] using tJ [] ps i
 | true::ks,p::ps,0=>by simp[vS]
 | false::ks,p::ps,0=>by simp[vS]
 | true::ks,p::ps,i+1=>by simpa[vS] using tJ ks ps i
 | false::ks,p::ps,i+1=>by simpa[vS] using tJ ks ps i
theorem tK :
  (∀i p l,qQ ((i,p)::l) i=p)∧(∀i j p l,(i==j)=false→qQ ((j,p)::l) i=qQ l i)∧(∀i,qQ [] i=.dead):=by
 refine⟨λi p l=>by simp[qQ],λi j p l h=>?_,λ_=>rfl⟩
 simp only[qQ]
 rw[if_neg (by simpa using h)]
theorem tL :
  (∀n l i p,(dR n l).set i p=dR n ((i,p)::l))∧
  (∀n l i,i<n→(dR n l).getD i .dead=qQ l i)∧
  (∀n l d k objs,(dR n l).map (iH d k objs)=dR n (KE d k objs l))∧
  (∀ks n l,vS ks (dR n l)=dR n (Zn ks l))∧
  (∀d n objs,KE d n objs []=[])∧(∀d n objs j p l,KE d n objs ((j,p)::l)=(j,iH d n objs p)::KE d n objs l):=by
 refine⟨λn l i p=>?_,λn l i h=>?_,λn l d k objs=>?_,λks n l=>?_,λ_ _ _=>rfl,λ_ _ _ _ _ _=>rfl⟩
 ·refine yH (by simp[lK]) λk hk=>?_
  rw[List.getElem?_set]
  simp only[qQ]
  split
  ·rename_i h;subst h;simp[lK,hk]
  ·rename_i h;rw[vo,if_pos hk,if_neg (λh'=>h h'.symm)]
 ·rw[List.getD_eq_getElem?_getD,vo,if_pos h];rfl
 ·refine yH (by simp[lK]) λi hi=>?_
  rw[List.getElem?_map,vo,if_pos hi,Px];rfl
 ·refine yH (by simp[lH,lK]) λi hi=>?_
  rw[tJ,vo,if_pos hi,TG];rfl
theorem TH :
  (∀n,aU [] n=⟨dR n [],[]⟩)∧
  (∀a n,1≤n→aU [a] n=⟨dR n [(0,a)],[]⟩)∧
  (∀a b n,2≤n→aU [a,b] n=⟨dR n [(0,a),(1,b)],[]⟩)∧
  (∀a b c n,3≤n→aU [a,b,c] n=⟨dR n [(0,a),(1,b),(2,c)],[]⟩)∧
  (∀a b c d n,4≤n→aU [a,b,c,d] n=⟨dR n [(0,a),(1,b),(2,c),(3,d)],[]⟩)∧
  (∀a b c d e n,5≤n→aU [a,b,c,d,e] n=⟨dR n [(0,a),(1,b),(2,c),(3,d),(4,e)],[]⟩):=by
 have key:∀(args:List PV) (n:Nat) (l:List (Nat×PV)),args.length≤n→(∀i,i<n→args.getD i .dead=qQ l i)→aU args n=⟨dR n l,[]⟩:=by
  intro args n l h1 h2
  have:args++List.replicate (n-args.length) PV.dead=dR n l:=by
   refine yH (by simp;omega) λi hi=>?_
   rw[←h2 i hi,List.getElem?_append,List.getD_eq_getElem?_getD]
   split
   ·rename_i h;rw[List.getElem?_eq_getElem h];rfl
   ·rename_i h;rw[List.getElem?_replicate,if_pos (by omega),List.getElem?_eq_none (by omega)];rfl
  rw[aU,this]
 refine⟨λn=>key _ _ _ (by simp) ?_,λa n h=>key _ _ _ h ?_,λa b n h=>key _ _ _ h ?_,λa b c n h=>key _ _ _ h ?_,λa b c d n h=>key _ _ _ h ?_,λa b c d e n h=>key _ _ _ h ?_⟩
 all_goals
  intro i _
  match i with
  | 0=>rfl
  | 1=>rfl
  | 2=>rfl
  | 3=>rfl
  | 4=>rfl
  | i+5=>simp[qQ]
theorem Yz :
  (∀tm ob d p,St.put ⟨tm,ob⟩ (some d) p=⟨tm.set d p,ob⟩)∧
  (∀tm ob p,St.put ⟨tm,ob⟩ none p=⟨tm,ob⟩)∧
  (∀tm ob t,St.ev ⟨tm,ob⟩ (.tmp t)=tm.getD t .dead)∧
  (∀(S:St) v,S.ev (.const v)=.uR v)∧
  (∀(S:St) f,S.ev (.func f)=.fn f [] [])∧
  (∀k n,PV.uR (.int k n)=.int k n)∧(∀b,PV.uR (.bool b)=.bool b)∧(∀l,PV.uR (.string ⟨⟨l⟩⟩)=.str l)∧
  (PV.uR (.slice none 0 0)=.sl 0 [] (some true))∧(PV.uR (.pointer none)=.xZ)∧(PV.uR .nilFunc=.zP):=
 ⟨λ_ _ _ _=>rfl,λ_ _ _=>rfl,λ_ _ _=>rfl,λ_ _=>rfl,λ_ _=>rfl,
  λ_ _=>rfl,λ_=>rfl,λ_=>rfl,rfl,rfl,rfl⟩
end Lp
namespace Lp
open Go
def aM(n:Nd):PV:=.agg [.int .i64 n.kind,.int .i64 n.many,.str n.name,.str n.s,.bool n.neg,.int .i64 n.e]
def ak(v:Vl):PV:=.sl 6 (v.map aM) none
end Lp
namespace Lp
open Go
def abD(ops:List Oper)(j:Nat):Option Nat:=(ops[j]?).bind (·.dst)
def YA(l:List Nat)(x:Nat):Bool:=l.any (Nat.beq x)
def abE(own:List Nat):Option Nat→Bool
 | some d=>YA own d
 | none=>false
def stepG(own:List Nat)(ops:List Oper)(o:Oper):Step:=⟨o.dst,o.op,match o.guard with
 | none=>none
 | some (j,b)=>some (abD ops j,b),abE own o.dst⟩
abbrev LpH:=Nat×Option (Nat×Nat)
def abF(nt m:Nat):List Bool:=(List.range nt).map (Nat.testBit m)
def YC:List Nat→Nat→Nat
 | [],_=>0
 | x::l,id=>bif Nat.blt 999 x && Nat.beq (x % 1000) id then x / 1000 else YC l id
def TI(b:Nat)(ss:List Step)(un:List Nat):LC:=
 match b with
 | 0=>.draw ss un
 | b+1=>.Ko (b+1) ss un
theorem KF(b:Nat)(ss:List Step)(un:List Nat):strip (TI b ss un)=.draw (ss.map qO) un:=by cases b<;>rfl
def tN(nt:Nat)(own wk:List Nat):Code→List LpH→LC×List LpH
 | .skip,k=>(.skip,k)
 | .ret,k=>(.ret,k)
 | .exit id,k=>(.exit id,k)
 | .region id ops false,k=>(bif YA wk id then .weak (.reg (ops.toList.map (stepG own ops.toList))) else .reg (ops.toList.map (stepG own ops.toList)),k)
 | .region id ops true,k=>(bif YA wk id then .weak (TI (YC wk id) (ops.toList.map (stepG own ops.toList)) (gZ ops.toList (masks ops.toList []))) else TI (YC wk id) (ops.toList.map (stepG own ops.toList)) (gZ ops.toList (masks ops.toList [])),k)
 | .seq a b,k=>
  match tN nt own wk a k with
  | (x,k')=>match tN nt own wk b k' with
   | (y,k'')=>(.seq x y,k'')
 | .cond c a b,k=>
  match tN nt own wk a k with
  | (x,k')=>match tN nt own wk b k' with
   | (y,k'')=>(.cond c x y,k'')
 | .block id b,k=>
  match tN nt own wk b k with
  | (x,k')=>(.block id x,k')
 | .loop b,k=>
  match tN nt own wk b k.tail with
  | (x,k')=>(.loop (abF nt (k.headD (0,none)).1) (k.headD (0,none)).2 x,k')
 | .rangeFunc f ps a b,k=>
  match tN nt own wk a k.tail with
  | (x,k')=>match tN nt own wk b k' with
   | (y,k'')=>(.rf f ps.toList (k.headD (0,none)).2 x y,k'')
 | _,k=>(.bad,k)
def gen(own:List Nat)(lps:List LpH)(wk:List Nat)(f:Func):LC:=
 match f.body with
 | some c=>(tN f.ntmps own wk c lps).1
 | none=>.bad
def f_:Code→Bool
 | .region _ ops true=>bZ ops.toList (masks ops.toList []) && dx ops.toList
 | .seq a b=>f_ a && f_ b
 | .cond _ a b=>f_ a && f_ b
 | .block _ c=>f_ c
 | .loop c=>f_ c
 | .rangeFunc _ _ a b=>f_ a && f_ b
 | _=>true
theorem A_(own:List Nat)(ops l:List Oper):(l.map (stepG own ops)).map qO=l.map (stepOf ops):=by
 rw[List.map_map]
 exact List.map_congr_left λo _=>rfl
theorem yI(b:Bool)(c:LC):strip (bif b then .weak c else c)=strip c:=by cases b<;>rfl
theorem gT(nt:Nat)(own wk:List Nat):∀(c:Code),f_ c=true→∀(k:List LpH),strip (tN nt own wk c k).1=comp c
 | .skip,_,_=>rfl
 | .ret,_,_=>rfl
 | .exit _,_,_=>rfl
 | .region id ops false,_,_=>by
  simp only[tN,yI,strip,A_,comp]
 | .region id ops true,h,_=>by
  simp only[f_]at h
  simp only[tN,yI,KF,A_,comp,h,cond_true]
 | .seq a b,h,k=>by
  simp only[f_,Bool.and_eq_true]at h
  simp only[tN,strip,comp,gT nt own wk a h.1,gT nt own wk b h.2]
 | .cond c a b,h,k=>by
  simp only[f_,Bool.and_eq_true]at h
  simp only[tN,strip,comp,gT nt own wk a h.1,gT nt own wk b h.2]
 | .block id c,h,k=>by
  simp only[f_]at h
  simp only[tN,strip,comp,gT nt own wk c h]
 | .loop c,h,k=>by
  simp only[f_]at h
  simp only[tN,strip,comp,gT nt own wk c h]
 | .rangeFunc f ps a b,h,k=>by
  simp only[f_,Bool.and_eq_true]at h
  simp only[tN,strip,comp,gT nt own wk a h.1,gT nt own wk b h.2]
 | .scope _,_,_=>rfl
 | .label _,_,_=>rfl
 | .goto _,_,_=>rfl
 | .refuse _,_,_=>rfl
def okF(f:Func)(n:Nat):Bool:=!(f.name== "runtime.NumGoroutine") && Nat.beq f.ntmps n && match f.body with | some c=>f_ c | none=>false
theorem bT{P:Program}{f:FuncId}{fn:Func}{n:Nat}{rs:List ResultVar}{own wk:List Nat}{lps:List LpH}(h:P.funcs[f]?=some fn)(hr:fn.results=rs.toArray)(hk:okF fn n=true):aX P f n rs (gen own lps wk fn):=by
 unfold okF at hk
 rw[Bool.and_eq_true,Bool.and_eq_true]at hk
 obtain⟨⟨h1,h2⟩,h3⟩:=hk
 cases hb:fn.body with
 | none=>rw[hb]at h3;cases h3
 | some c=>
  rw[hb]at h3
  refine⟨fn,c,h,by simpa using h1,hb,Nat.eq_of_beq_eq_true h2,hr,?_⟩
  unfold gen
  rw[hb]
  exact gT _ _ _ _ h3 _
def TJ(P:Program)(t:TypeId):ay:=
 match P.info? t,P.underlying t with
 | some i,some d=>match i.zero with
  | some z=>bif Nat.beq t MT then ay.off else ⟨kindOf d,i.size,i.bytes,z⟩
  | none=>ay.off
 | _,_=>ay.off
theorem TL{P:Program}(t:TypeId):eP P t (TJ P t):=by
 unfold TJ
 split
 ·rename_i i d hi hu
  split
  ·rename_i z hz
   cases hm:Nat.beq t MT with
   | true=>exact Io
   | false=>exact Yr (by rw[hi,Option.map_some,hz]) (by rw[hu];rfl) hm
  ·exact Io
 ·exact Io
end Lp
namespace Lp
open Go Go.Proofs
noncomputable def D:TypeId→ay:=TJ Tryz.prog
theorem hD(t:TypeId):eP Tryz.prog t (D t):=TL t
theorem bM:Tryz.prog.follows .mixedOrders=true:=by kernel_rfl
theorem dL:D 3=⟨(.int .i64),1,8,.int .i64 0⟩∧D 4=⟨.bool,1,1,.bool false⟩∧D 5=⟨(.int .u8),1,1,.int .u8 0⟩∧D 9=⟨.str,1,16,.string ⟨⟨[]⟩⟩⟩∧D 21=⟨(.int .i32),1,4,.int .i32 0⟩∧D 23=⟨(.slice 46),1,24,.slice none 0 0⟩∧D 27=⟨(.slice 38),1,24,.slice none 0 0⟩∧D 31=⟨(.int .i64),1,8,.int .i64 0⟩∧D 36=⟨(.slice 43),1,24,.slice none 0 0⟩∧D 38=⟨(.struct [(0,3),(1,36),(2,23)]),3,56,.agg ⟨[.int .i64 0,.slice none 0 0,.slice none 0 0]⟩⟩∧D 43=⟨(.struct [(0,4),(1,9),(2,3)]),3,32,.agg ⟨[.bool false,.string ⟨⟨[]⟩⟩,.int .i64 0]⟩⟩∧D 46=⟨(.struct [(0,3),(1,3),(2,9),(3,9),(4,4),(5,3)]),6,64,.agg ⟨[.int .i64 0,.int .i64 0,.string ⟨⟨[]⟩⟩,.string ⟨⟨[]⟩⟩,.bool false,.int .i64 0]⟩⟩∧D 64=⟨(.slice 23),1,24,.slice none 0 0⟩∧D 75=⟨(.slice 9),1,24,.slice none 0 0⟩∧D 80=⟨(.slice 3),1,24,.slice none 0 0⟩∧D 85=⟨(.struct [(0,3),(1,3),(2,4),(3,9)]),4,40,.agg ⟨[.int .i64 0,.int .i64 0,.bool false,.string ⟨⟨[]⟩⟩]⟩⟩∧D 86=⟨(.slice 85),1,24,.slice none 0 0⟩∧D 101=⟨(.slice 4),1,24,.slice none 0 0⟩∧D 102=⟨(.map 9 23),1,8,.map none⟩∧D 114=⟨(.slice 80),1,24,.slice none 0 0⟩∧D 122=⟨(.int .u64),1,8,.int .u64 0⟩:=by (repeat' constructor)<;>kernel_rfl
end Lp
namespace Lp
open Go Go.Proofs
theorem Aa:aX Tryz.prog 8 34 [.tmp 4] (gen [] [(33,none)] [] Tryz.f8):=bT Tryz.func8 rfl (by kernel_rfl)
theorem yJ:aX Tryz.prog 16 26 [.tmp 4] (gen [] [(35,none)] [] Tryz.f16):=bT Tryz.func16 rfl (by kernel_rfl)
theorem Ab:aX Tryz.prog 37 17 [.tmp 2] (gen [] [(9,none)] [] Tryz.f37):=bT Tryz.func37 rfl (by kernel_rfl)
theorem wY:aX Tryz.prog 19 39 [.tmp 2] (gen [] [(9,none)] [] Tryz.f19):=bT Tryz.func19 rfl (by kernel_rfl)
theorem Ba:aX Tryz.prog 76 19 [.tmp 2] (gen [] [(0,none)] [] Tryz.f76):=bT Tryz.func76 rfl (by kernel_rfl)
theorem Bb:aX Tryz.prog 52 15 [.tmp 2] (gen [] [(0,none)] [] Tryz.f52):=bT Tryz.func52 rfl (by kernel_rfl)
noncomputable def o5:LC:=(gen [] [] [] Tryz.f61)
theorem yK:aX Tryz.prog 61 109 [.tmp 4] o5:=bT Tryz.func61 rfl (by kernel_rfl)
theorem yL:aX Tryz.prog 34 41 [.tmp 4] (gen [] [(35,none)] [] Tryz.f34):=bT Tryz.func34 rfl (by kernel_rfl)
theorem wZ:aX Tryz.prog 35 48 [.tmp 2] (gen [] [] [] Tryz.f35):=bT Tryz.func35 rfl (by kernel_rfl)
theorem vV:aX Tryz.prog 36 75 [.tmp 4] (gen [] [(99,none)] [] Tryz.f36):=bT Tryz.func36 rfl (by kernel_rfl)
theorem vW:aX Tryz.prog 125 6 [.tmp 2] (gen [] [] [] Tryz.f125):=bT Tryz.func125 rfl (by kernel_rfl)
theorem Nu:aX Tryz.prog 80 4 [.tmp 2] (gen [] [] [] Tryz.f80):=bT Tryz.func80 rfl (by kernel_rfl)
theorem yM:aX Tryz.prog 86 21 [.tmp 4] (gen [] [] [] Tryz.f86):=bT Tryz.func86 rfl (by kernel_rfl)
theorem w9:aX Tryz.prog 60 72 [.tmp 2] (gen [] [] [1] Tryz.f60):=bT Tryz.func60 rfl (by kernel_rfl)
theorem Ir:aX Tryz.prog 107 34 [] (gen [] [(1547,none)] [6] Tryz.f107):=bT Tryz.func107 rfl (by kernel_rfl)
theorem Iu:aX Tryz.prog 108 19 [.tmp 4] (gen [] [(35,none)] [] Tryz.f108):=bT Tryz.func108 rfl (by kernel_rfl)
theorem fJ:aX Tryz.prog 109 8 [.tmp 2] (gen [5] [] [] Tryz.f109):=bT Tryz.func109 rfl (by kernel_rfl)
theorem tO:aX Tryz.prog 85 20 [.tmp 2] (gen [] [(9,none)] [] Tryz.f85):=bT Tryz.func85 rfl (by kernel_rfl)
end Lp
namespace Lp
open Go
structure HK {α:Type}(K:α→Prop):Type where
def YD{α:Type}{K:α→Prop}(o:Option α)(_h:HK K):Prop:=∃x,o=some x∧K x
theorem atR{α:Type}(K:α→Prop):(∀x,YD (some x) (HK.mk:HK K)=K x)∧(∀(a:α) l,(a::l)[0]?=some a)∧(∀(a:α) l (n:Nat),(a::l)[n+1]?=l[n]?):=
 ⟨λx=>by simp[YD],λ_ _=>rfl,λ_ _ _=>by simp⟩
def Gz(k:TK)(K:TypeId→Prop):Prop:=match k with
 | .slice e=>K e
 | _=>False
def YE(k:TK)(K:Nat→TypeId→Prop):Prop:=match k with
 | .array n e=>K n e
 | _=>False
def Iw(k:TK)(X:Prop):Prop:=match k with
 | .str=>X
 | _=>False
@[congr] theorem Zo{k k':TK}{K:TypeId→Prop}(h:k=k'):Gz k K=Gz k' K:=by rw[h]
@[congr] theorem Zp{k k':TK}{K:Nat→TypeId→Prop}(h:k=k'):YE k K=YE k' K:=by rw[h]
@[congr] theorem YF{k k':TK}{X:Prop}(h:k=k'):Iw k X=Iw k' X:=by rw[h]
theorem skR:(∀e K,Gz (.slice e) K=K e)∧(∀n e K,YE (.array n e) K=K n e)∧(∀X,Iw .str X=X):=⟨λ_ _=>rfl,λ_ _ _=>rfl,λ_=>rfl⟩
theorem TM(D:TypeId→ay)(objs:List Obj)(K:KT) :
  (∀t sz xs q k n,aZ D t (.sl sz xs q) (.int k n) objs K=Gz (D t).kind λe=>(D e).kind≠.none∧0≤n∧(D e).size=sz∧YD xs[n.toNat]? (HK.mk:HK λy=>K (.addr y) objs 0))∧
  (∀t k ver k' n,aZ D t (.aW k ver) (.int k' n) objs K=Gz (D t).kind λe=>(D e).kind≠.none∧0≤n∧∃o,objs[k]?=some o∧o.live=true∧o.ver=ver∧n<o.xs.length∧(D e).size=o.sz∧K (.aT k ver n.toNat 0) objs (4+2*k))∧
  (∀t cs k n,aZ D t (.addr (.agg cs)) (.int k n) objs K=YE (D t).kind λm e=>(D e).kind≠.none∧0≤n∧n<m∧(n.toNat+1)*(D e).size≤cs.length∧((D e).agg=false→(D e).size=1)∧cs.all (λc=>!c.isAgg)=true∧
   K (.addr (sub cs (n.toNat*(D e).size) (D e).size (D e).agg)) objs 0)∧
  (∀t k ver i f k' n,aZ D t (.aT k ver i f) (.int k' n) objs K=YE (D t).kind λm e=>(D e).kind≠.none∧0≤n∧n<m∧∃o,objs[k]?=some o∧o.live=true∧o.ver=ver∧K (.aT k ver i (f+n.toNat*(D e).size)) objs (4+2*k))∧
  (∀t s k n,jN D t (.str s) (.int k n) objs K=Iw (D t).kind (0≤n∧YD s[n.toNat]? (HK.mk:HK λb=>K (.int .u8 b.toNat) objs 0)))∧
  (∀t cs k n,jN D t (.agg cs) (.int k n) objs K=YE (D t).kind λm e=>(D e).kind≠.none∧0≤n∧n<m∧(n.toNat+1)*(D e).size≤cs.length∧(D e).size≠0∧K (sub cs (n.toNat*(D e).size) (D e).size (D e).agg) objs 0)∧
  (∀t cs f,aN D t (.addr (.agg cs)) f objs K=dD D t f λoff ti=>off+ti.size≤cs.length∧(ti.agg=false→ti.size=1)∧cs.all (λc=>!c.isAgg)=true∧K (.addr (sub cs off ti.size ti.agg)) objs 0)∧
  (∀t k ver i f' f,aN D t (.aT k ver i f') f objs K=∃o,objs[k]?=some o∧o.live=true∧o.ver=ver∧dD D t f λoff _=>K (.aT k ver i (f'+off)) objs (4+2*k))∧
  (∀t cs f,mq D t (.agg cs) f objs K=dD D t f λoff ti=>off+ti.size≤cs.length∧K (sub cs off ti.size ti.agg) objs 0)∧
  (∀t s,oI D t (.str s) objs K=Iw (D t).kind (K (.int .i64 s.length) objs 0))∧
  (∀t sz xs q,oI D t (.sl sz xs q) objs K=Gz (D t).kind λ_=>K (.int .i64 xs.length) objs 0)∧
  (∀t k ver,oI D t (.aW k ver) objs K=Gz (D t).kind λ_=>∃o,objs[k]?=some o∧o.live=true∧o.ver=ver∧K (.int .i64 o.xs.length) objs (4+2*k))∧
  (∀t s lo hi,gu D t (.str s) lo hi objs K=Iw (D t).kind (bR lo 0 λl=>bR hi s.length λh=>0≤l∧l≤h∧h≤s.length∧K (.str ((s.take h.toNat).drop l.toNat)) objs 0))∧
  (∀t sz xs q lo hi,gu D t (.sl sz xs q) lo hi objs K=Gz (D t).kind λe=>(D e).kind≠.none∧(xs=[]∨(D e).size=sz)∧bR lo 0 λl=>bR hi xs.length λh=>0≤l∧l≤h∧h≤xs.length∧
   K (.sl sz ((xs.take h.toNat).drop l.toNat) q) objs 0)∧
  (∀t k ver lo hi,gu D t (.aW k ver) lo hi objs K=Gz (D t).kind λe=>(D e).kind≠.none∧∃o,objs[k]?=some o∧o.live=true∧o.ver=ver∧(D e).size=o.sz∧lo=none∧bR hi o.xs.length λh=>0≤h∧h≤o.xs.length∧
   K (.aW k (ver+1)) (objs.set k { o with xs:=o.xs.take h.toNat,ver:=ver+1 }) (5+2*k)):=by
 refine⟨λt sz xs q k n=>?_,λt k ver k' n=>?_,λt cs k n=>?_,λt k ver i f k' n=>?_,λt s k n=>?_,λt cs k n=>?_,λ_ _ _=>rfl,λ_ _ _ _ _ _=>rfl,λ_ _ _=>rfl,λt s=>?_,λt sz xs q=>?_,λt k ver=>?_,λt s lo hi=>?_,λt sz xs q lo hi=>?_,λt k ver lo hi=>?_⟩
 all_goals try simp only[aZ,jN,oI,gu]
 all_goals cases (D t).kind<;>simp only[Gz,YE,Iw,YD]
 apply propext
 constructor
 ·rintro⟨h1,h2,y,h3,h4,h5⟩;exact⟨h1,h2,h4,y,h3,h5⟩
 ·rintro⟨h1,h2,h4,y,h3,h5⟩;exact⟨h1,h2,y,h3,h4,h5⟩
theorem ldR(objs:List Obj)(K:KT) :
  (∀ti x,dK ti (.addr x) objs K=(ti.kind≠.none∧x.cells.length=ti.size∧x.isAgg=ti.agg∧K x objs 0))∧
  (∀ti k ver i f,dK ti (.aT k ver i f) objs K=∃o e,objs[k]?=some o∧o.live=true∧o.ver=ver∧o.xs[i]?=some e∧ti.kind≠.none∧f+ti.size≤e.cells.length∧
   (ti.agg=false→ti.size=1)∧e.cells.all (λc=>!c.isAgg)=true∧K (sub e.cells f ti.size ti.agg) objs (4+2*k)):=⟨λ_ _=>rfl,λ_ _ _ _ _=>rfl⟩
theorem TN(D:TypeId→ay)(objs:List Obj)(K:List PV→Bool→Prop) :
  (∀t sz xs q,kX D t (.sl sz xs q) objs K=Gz (D t).kind λ_=>K xs false)∧
  (∀t k ver,kX D t (.aW k ver) objs K=Gz (D t).kind λ_=>∃o,objs[k]?=some o∧o.live=true∧o.ver=ver∧K o.xs true)∧
  (∀t s,kX D t (.str s) objs K=Iw (D t).kind (K (s.map λb=>.int .u8 b.toNat) false)):=by
 refine⟨λt sz xs q=>?_,λt k ver=>?_,λt s=>?_⟩
 all_goals simp only[kX]
 all_goals cases (D t).kind<;>simp only[Gz,Iw]
@[congr] theorem YG{D:TypeId→ay}{t:TypeId}{x x':PV}{objs ai:List Obj}{K:List PV→Bool→Prop}(h:x=x')(ho:objs=ai):kX D t x objs K=kX D t x' ai K:=by rw[h,ho]
theorem Zq:noTwo []=true∧(∀l,noTwo (0::l)=noTwo l)∧(∀l,noTwo (1::l)=noTwo l)∧(∀l,noTwo (4::l)=noTwo l)∧(∀l,noTwo (6::l)=noTwo l)∧(∀l,noTwo (8::l)=noTwo l)∧(∀l,noTwo (10::l)=noTwo l):=
 ⟨rfl,λ_=>rfl,λ_=>rfl,λ_=>rfl,λ_=>rfl,λ_=>rfl,λ_=>rfl⟩
theorem vX{α:Type}{E:List α→PV}{sz:Nat}{enc:α→PV}(hE:∀l,E l=.sl sz (l.map enc) none)(D:TypeId→ay)(objs:List Obj)(K:KT) :
  (∀t l k n,aZ D t (E l) (.int k n) objs K=Gz (D t).kind λe=>(D e).kind≠.none∧0≤n∧(D e).size=sz∧YD l[n.toNat]? (HK.mk:HK λy=>K (.addr (enc y)) objs 0))∧
  (∀t l,oI D t (E l) objs K=Gz (D t).kind λ_=>K (.int .i64 l.length) objs 0)∧
  (∀t l lo hi,gu D t (E l) lo hi objs K=Gz (D t).kind λe=>(D e).kind≠.none∧(l=[]∨(D e).size=sz)∧bR lo 0 λa=>bR hi l.length λh=>0≤a∧a≤h∧h≤l.length∧
   K (E ((l.take h.toNat).drop a.toNat)) objs 0):=by
 refine⟨λt l k n=>?_,λt l=>?_,λt l lo hi=>?_⟩
 all_goals simp only[hE,(TM D objs K).1,(TM D objs K).2.2.2.2.2.2.2.2.2.2.1,(TM D objs K).2.2.2.2.2.2.2.2.2.2.2.2.2.1]
 all_goals cases (D t).kind<;>simp only[Gz,YD,List.length_map,List.map_eq_nil_iff,List.map_drop,List.map_take]
 apply propext
 constructor
 ·rintro⟨h1,h2,h4,y,h3,h5⟩
  rw[List.getElem?_map]at h3
  cases hx:l[n.toNat]? with
  | none=>rw[hx]at h3;simp at h3
  | some x=>rw[hx]at h3;simp only[Option.map_some,Option.some.injEq]at h3;exact⟨h1,h2,h4,x,rfl,h3 ▸ h5⟩
 ·rintro⟨h1,h2,h4,y,h3,h5⟩
  exact⟨h1,h2,h4,enc y,by rw[List.getElem?_map,h3];rfl,h5⟩
theorem kz{α:Type}{E:List α→PV}{sz:Nat}{enc:α→PV}(hE:∀l,E l=.sl sz (l.map enc) none)(D:TypeId→ay)(objs:List Obj)(K:List PV→Bool→Prop) :
  (∀t l,kX D t (E l) objs K=Gz (D t).kind λ_=>K (l.map enc) false):=by
 intro t l
 rw[hE]
 exact (TN D objs K).1 ..
theorem vY{α:Type}{E:List α→PV}{sz:Nat}{enc:α→PV}(hE:∀l,E l=.sl sz (l.map enc) none) :
  (∀l,(E l).cells=[E l])∧(∀l,(E l).isAgg=false)∧(∀l,(E l).pure=true)∧(∀l,(E l).ref=false)∧(∀l,(E l).lg=true)∧(∀l,(E l).storable=true)∧
  (∀d n O l,fB d n O (E l)=E l)∧(∀d n O l,iH d n O (E l)=E l):=by
 refine⟨λl=>?_,λl=>?_,λl=>?_,λl=>?_,λl=>?_,λl=>?_,λ_ _ _ l=>?_,λ_ _ _ l=>?_⟩
 all_goals rw[hE];rfl
def jF{α:Type}(E:α→PV){K:α→Prop}(x:PV)(_h:HK K):Prop:=∃v,x=E v∧K v
theorem aR{α:Type}{E:α→PV}(hE:∀a b,E a=E b→a=b)(K:α→Prop)(v:α):jF E (E v) (HK.mk:HK K)=K v:=
 propext ⟨λ⟨w,h,hk⟩=>hE v w h ▸ hk,λhk=>⟨v,rfl,hk⟩⟩
theorem o6{α:Type}{E:List α→PV}{sz:Nat}{enc:α→PV}(hE:∀l,E l=.sl sz (l.map enc) none)(he:∀a b,enc a=enc b→a=b):∀a b,E a=E b→a=b:=by
 intro a b h
 rw[hE,hE]at h
 injection h with _ h _
 induction a generalizing b with
 | nil=>cases b with
  | nil=>rfl
  | cons y ys=>simp at h
 | cons x xs ih=>cases b with
  | nil=>simp at h
  | cons y ys=>
   simp only[List.map_cons,List.cons.injEq]at h
   rw[he x y h.1,ih ys h.2]
theorem exS{α:Type}(a:α)(q:α→Prop):(∃o,some a=some o∧q o)=q a:=by simp
theorem aah:(∀k n,PV.storable (.int k n)=true)∧(∀b,PV.storable (.bool b)=true)∧(∀s,PV.storable (.str s)=true)∧(∀z xs q,PV.storable (.sl z xs q)=true)∧
  (∀k v,PV.storable (.aW k v)=true)∧(∀k v i f,PV.storable (.aT k v i f)=true)∧(∀x,PV.storable (.addr x)=true):=
 ⟨λ_ _=>rfl,λ_=>rfl,λ_=>rfl,λ_ _ _=>rfl,λ_ _=>rfl,λ_ _ _ _=>rfl,λ_=>rfl⟩
theorem TP{α β:Type}(f:α→β)(l m:List α):l.map f++m.map f=(l++m).map f:=by simp
def wF{α:Type}(enc:α→PV):Prop:=∀d n objs x,PV.bI (kr d n objs) (enc x)=enc x
theorem iw{α:Type}{E:List α→PV}{sz:Nat}{enc:α→PV}(hE:∀l,E l=.sl sz (l.map enc) none)(h:wF enc) :
  (∀d ty l v rest,fB (d+1) 0 (⟨ty,sz,l.map enc,true,v⟩::rest) (.aW 0 v)=E l)∧
  (∀d ty l v o rest,fB (d+1) 0 (o::⟨ty,sz,l.map enc,true,v⟩::rest) (.aW 1 v)=E l)∧
  (∀d ty l v o o' rest,fB (d+1) 0 (o::o'::⟨ty,sz,l.map enc,true,v⟩::rest) (.aW 2 v)=E l):=by
 have key:∀d ty l v objs k,objs[k]?=some ⟨ty,sz,l.map enc,true,v⟩→fB (d+1) 0 objs (.aW k v)=E l:=by
  intro d ty l v objs k hk
  simp only[fB,Nat.not_lt_zero,if_false,kr,hk,Nat.zero_le,decide_true,Bool.and_self,BEq.rfl,if_true]
  rw[hE]
  congr 1
  rw[List.map_map]
  exact List.map_congr_left λx _=>h d 0 objs x
 exact⟨λd ty l v rest=>key d ty l v _ 0 rfl,λd ty l v o rest=>key d ty l v _ 1 rfl,λd ty l v o o' rest=>key d ty l v _ 2 rfl⟩
theorem tQ{α:Type}{enc:α→PV}{sz:Nat}(h1:∀x,(enc x).cells.length=sz)(h2:∀x,(enc x).cells.all PV.storable=true)(l:List α) :
  (∀y,y∈l.map enc→y.cells.length=sz∧y.cells.all PV.storable=true)=True:=by
 refine eq_true λy hy=>?_
 obtain⟨x,_,rfl⟩:=List.mem_map.1 hy
 exact⟨h1 x,h2 x⟩
theorem Xo(y0:PV)(sz:Nat):(∀y,y∈[y0]→y.cells.length=sz∧y.cells.all PV.storable=true)=(y0.cells.length=sz∧y0.cells.all PV.storable=true):=by simp
theorem ME(E:PV)(h:E.ref=false)(k:Nat):(∀k' v':Nat,E=.aW k' v'→¬ k'=k)=True:=by
 refine eq_true λk' v' he=>?_
 rw[he]at h;cases h
def o7:List Bool→Nat→List (Nat×PV)→List (Nat×PV)
 | [],_,_=>[]
 | true::ks,i,l=>(i,qQ l i)::o7 ks (i+1) l
 | false::ks,i,l=>o7 ks (i+1) l
theorem Dv:∀(ks:List Bool) (j:Nat) (l:List (Nat×PV)) (i:Nat),qQ (o7 ks j l) i=if j≤i∧ks[i-j]?=some true then qQ l i else .dead
 | [],j,l,i=>by simp[o7,qQ]
 | true::ks,j,l,i=>by
  simp only[o7,qQ]
  by_cases h:i=j
  ·subst h;simp
  ·rw[if_neg h,Dv ks (j+1) l i]
   by_cases hj:j+1≤i
   ·have e:i-j=(i-(j+1))+1:=by omega
    simp only[e,List.getElem?_cons_succ,hj,true_and,show j≤i by omega]
   ·rw[if_neg (by omega),if_neg (by omega)]
 | false::ks,j,l,i=>by
  simp only[o7]
  rw[Dv ks (j+1) l i]
  by_cases h:i=j
  ·subst h;rw[if_neg (by omega),if_neg (by simp)]
  ·by_cases hj:j+1≤i
   ·have e:i-j=(i-(j+1))+1:=by omega
    simp only[e,List.getElem?_cons_succ,hj,true_and,show j≤i by omega]
   ·rw[if_neg (by omega),if_neg (by omega)]
theorem KG(ks:List Bool)(n:Nat)(l:List (Nat×PV)):vS ks (dR n l)=dR n (o7 ks 0 l):=by
 refine yH (by simp[lH,lK]) λi hi=>?_
 rw[tJ,vo,if_pos hi,Dv]
 simp
theorem dX :
  (∀ks n l ob,St.norm ks none ⟨dR n l,ob⟩=⟨dR n (o7 ks 0 l),ob⟩)∧
  (∀ks d k n l ob,St.norm ks (some (d,k)) ⟨dR n l,ob⟩=St.freeze d k ⟨dR n (o7 ks 0 l),ob⟩):=by
 refine⟨λks n l ob=>?_,λks d k n l ob=>?_⟩
 ·simp only[St.norm,St.forget,KG]
 ·simp only[St.norm,St.forget,KG]
theorem keepR:(∀i l,o7 [] i l=[])∧(∀ks i l,o7 (true::ks) i l=(i,qQ l i)::o7 ks (i+1) l)∧(∀ks i l,o7 (false::ks) i l=o7 ks (i+1) l):=
 ⟨λ_ _=>rfl,λ_ _ _=>rfl,λ_ _ _=>rfl⟩
theorem aai(T:Know)(K:KT)(objs:List Obj)(pt:Bool) :
  (∀g args,mR T pt (.fn g [] []) args objs K=T.fn g args objs K)∧
  (∀g c,mR T pt (.fn g [] [c]) [] objs K=T.fn g [c] objs K)∧
  (∀g c a,mR T pt (.fn g [] [c]) [a] objs K=T.fn g [a,c] objs K)∧
  (∀g c a b,mR T pt (.fn g [] [c]) [a,b] objs K=T.fn g [a,b,c] objs K)∧
  (∀g c d a,mR T pt (.fn g [] [c,d]) [a] objs K=T.fn g [a,c,d] objs K)∧
  (∀g c d a b,mR T pt (.fn g [] [c,d]) [a,b] objs K=T.fn g [a,b,c,d] objs K)∧
  (∀l args,mR T pt (.oF l) args objs K=(l=T.y∧pt=true∧args.all PV.pure=true∧T.Y args objs λb o=>K (.bool b) o 2)):=by
 refine⟨λg args=>?_,λ_ _=>rfl,λ_ _ _=>rfl,λ_ _ _ _=>rfl,λ_ _ _ _=>rfl,λ_ _ _ _ _=>rfl,λ_ _=>rfl⟩
 simp[mR]
theorem VR(K:KT)(objs:List Obj)(args:List PV)(c:fu)(l:List (FuncId×fu))(f:FuncId) :
  (jR ((f,c)::l) f args objs K=c args objs K)∧(∀g,(f==g)=false→jR ((g,c)::l) f args objs K=jR l f args objs K):=by
 refine⟨by simp[jR],λg h=>?_⟩
 rw[taR,h];rfl
@[congr] theorem TQ{D:TypeId→ay}{b:Builtin}{ats aaj:List TypeId}{args args':List Operand}{ev:Operand→PV}{objs:List Obj}{K:KT}(h:ats=aaj)(h1:args=args'):dH D b ats args ev objs K=dH D b aaj args' ev objs K:=by rw[h,h1]
theorem Xp(P:Program)(D:TypeId→ay)(T:Know)(w pt:Bool)(ev:Operand→PV)(objs:List Obj)(K:KT) :
  (∀x,jI P D T w pt ev objs (.move x) K=K (ev x) objs 0)∧(∀x,jI P D T w pt ev objs (.assign x) K=K (ev x) objs 0)∧
  (∀c x y,jI P D T w pt ev objs (.pick c x y) K=rW (ev c) (ev x) (ev y) objs K)∧
  (∀t,jI P D T w pt ev objs (.alloc t) K=pE t (D t) objs K)∧
  (∀t x,jI P D T w pt ev objs (.box t x) K=Hu t (D t) (ev x) objs K)∧
  (∀t ps,jI P D T w pt ev objs (.build t ps) K=cO D t (ps.toList.map λx=>(x.1,ev x.2)) objs K)∧
  (∀t n ps,jI P D T w pt ev objs (.buildSlice t n ps) K=bB D w t n (ps.toList.map λx=>(x.1,ev x.2)) objs K)∧
  (∀t x,jI P D T w pt ev objs (.load t x) K=dK (D t) (ev x) objs K)∧
  (∀t x y,jI P D T w pt ev objs (.store t x y) K=iq (D t) (ev x) (ev y) objs K)∧
  (∀x,jI P D T w pt ev objs (.nilCheck x) K=bX (ev x) objs K)∧
  (∀b t x y t',jI P D T w pt ev objs (.binOp b t x y t') K=nQ P (D t) t b (ev x) (ev y) λr=>K r objs 0)∧
  (∀u t x,jI P D T w pt ev objs (.unOp u t x) K=JF u (ev x) λr=>K r objs 0)∧
  (∀s t x,jI P D T w pt ev objs (.convert s t x) K=oQ D s t (ev x) objs K)∧
  (∀f first cap,jI P D T w pt ev objs (.makeFunc (.func f) first cap) K=jg f (first.toList.map ev) (cap.toList.map ev) objs K)∧
  (∀t l c,jI P D T w pt ev objs (.makeSlice t l c) K=dJ D t (ev l) (ev c) objs K)∧
  (∀t x lo hi,jI P D T w pt ev objs (.slice t x lo hi none) K=gu D t (ev x) (lo.map ev) (hi.map ev) objs K)∧
  (∀t x f,jI P D T w pt ev objs (.fieldAddr t x f) K=aN D t (ev x) f objs K)∧
  (∀t x f,jI P D T w pt ev objs (.field t x f) K=mq D t (ev x) f objs K)∧
  (∀t x i,jI P D T w pt ev objs (.indexAddr t x i) K=aZ D t (ev x) (ev i) objs K)∧
  (∀t x i,jI P D T w pt ev objs (.index t x i) K=jN D t (ev x) (ev i) objs K)∧
  (∀x i,jI P D T w pt ev objs (.extract x i) K=bL (ev x) i objs K)∧
  (∀t x,jI P D T w pt ev objs (.call { callee:=.builtin .len,args:=⟨[x]⟩,argTypes:=⟨[t]⟩ }) K=oI D t (ev x) objs K)∧
  (∀t u s x,jI P D T w pt ev objs (.call { callee:=.builtin .append,args:=⟨[s,x]⟩,argTypes:=⟨[t,u]⟩ }) K=dh D t u (ev s) (ev x) objs K)∧
  (∀x y ats,jI P D T w pt ev objs (.call { callee:=.builtin .max,args:=⟨[x,y]⟩,argTypes:=ats }) K=fH true [ev x,ev y] λr=>K r objs 0)∧
  (∀x y ats,jI P D T w pt ev objs (.call { callee:=.builtin .min,args:=⟨[x,y]⟩,argTypes:=ats }) K=fH false [ev x,ev y] λr=>K r objs 0):=
 ⟨λ_=>rfl,λ_=>rfl,λ_ _ _=>rfl,λ_=>rfl,λ_ _=>rfl,λ_ _=>rfl,λ_ _ _=>rfl,λ_ _=>rfl,λ_ _ _=>rfl,λ_=>rfl,λ_ _ _ _ _=>rfl,λ_ _ _=>rfl,λ_ _ _=>rfl,
  λ_ _ _=>rfl,λ_ _ _=>rfl,λ_ _ _ _=>rfl,λ_ _ _=>rfl,λ_ _ _=>rfl,λ_ _ _=>rfl,λ_ _ _=>rfl,λ_ _=>rfl,λ_ _=>rfl,λ_ _ _ _=>rfl,λ_ _ _=>rfl,λ_ _ _=>rfl⟩
theorem aak{α β:Type}(a:α)(q:α→β→Prop):(∃o e,some a=some o∧q o e)=∃e,q a e:=by simp
theorem setRow{α:Type}{enc:α→PV}(h:∀x y:α,(enc x).putCells 0 (enc y).cells=enc y)(l:List α)(i:Nat)(x y:α):(l.map enc).set i ((enc x).putCells 0 (enc y).cells)=(l.set i y).map enc:=by
 rw[h,List.map_set]
theorem aal(P:Program)(D:TypeId→ay)(T:Know) :
  (∀S ts (K:St→List Nat→Prop),LR P D T [] S ts K=K S ts)∧
  (∀d o w rest n l ob ts (K:St→List Nat→Prop),LR P D T (⟨some d,o,none,w⟩::rest) ⟨dR n l,ob⟩ ts K=
   jI P D T w ((dR n l).all PV.pure) (St.ev ⟨dR n l,ob⟩) ob o λr ai t=>LR P D T rest ⟨dR n ((d,r)::l),ai⟩ (ts++[t]) K)∧
  (∀o w rest n l ob ts (K:St→List Nat→Prop),LR P D T (⟨none,o,none,w⟩::rest) ⟨dR n l,ob⟩ ts K=
   jI P D T w ((dR n l).all PV.pure) (St.ev ⟨dR n l,ob⟩) ob o λr ai t=>LR P D T rest ⟨dR n l,ai⟩ (ts++[t]) K)∧
  (∀d o g v w rest n l ob ts (K:St→List Nat→Prop),LR P D T (⟨some d,o,some (some g,v),w⟩::rest) ⟨dR n l,ob⟩ ts K=
   jS ((dR n l).getD g .dead) g v ⟨dR n l,ob⟩ (λS=>LR P D T (⟨some d,o,none,w⟩::rest) S ts K) (λS=>LR P D T rest (S.put (some d) (.bP [])) (ts++[0]) K))∧
  (∀o g v w rest n l ob ts (K:St→List Nat→Prop),LR P D T (⟨none,o,some (some g,v),w⟩::rest) ⟨dR n l,ob⟩ ts K=
   jS ((dR n l).getD g .dead) g v ⟨dR n l,ob⟩ (λS=>LR P D T (⟨none,o,none,w⟩::rest) S ts K) (λS=>LR P D T rest S (ts++[0]) K)):=by
 refine⟨λ_ _ _=>rfl,λd o w rest n l ob ts K=>?_,λo w rest n l ob ts K=>rfl,λd o g v w rest n l ob ts K=>rfl,λo g v w rest n l ob ts K=>rfl⟩
 simp only[←tL.1]
 rfl
theorem VS :
  (∀b d n l ob (X Y:St→Prop),jS (.bool b) d true ⟨dR n l,ob⟩ X Y=wX b (X ⟨dR n ((d,.bool true)::l),ob⟩) (Y ⟨dR n ((d,.bool false)::l),ob⟩))∧
  (∀b d n l ob (X Y:St→Prop),jS (.bool b) d false ⟨dR n l,ob⟩ X Y=wX b (Y ⟨dR n ((d,.bool true)::l),ob⟩) (X ⟨dR n ((d,.bool false)::l),ob⟩))∧
  (∀d w (S:St) (X Y:St→Prop),jS (.bP []) d w S X Y=Y S):=by
 refine⟨λb d n l ob X Y=>?_,λb d n l ob X Y=>?_,λ_ _ _ _ _=>rfl⟩
 ·simp only[aag,tL.1]
 ·simp only[aag,tL.1]
theorem Xq:(∀n l ob d p,St.put ⟨dR n l,ob⟩ (some d) p=⟨dR n ((d,p)::l),ob⟩):=λn l ob d p=>by
 rw[←tL.1];rfl
theorem aX.cZ {P:Program}{D:TypeId→ay}{T:Know}{f:FuncId}{n t:Nat}{C:LC}{args:List PV}{r:PV}(h:aX P f n [.tmp t] C)(d:Nat)(hD:∀t,eP P t (D t))(hT:r9 P none vT T)(hm:P.follows .mixedOrders=true)(ht:t<n)
  (hw:∀Q:Exit→St→Prop,(∀l ob,Q .ret ⟨dR n l,ob⟩=(r=iH d 0 ob (qQ l t)))→gY P D T C Q (aU args n)):av P f args [] r []:=by
 refine h.pure d hD hT hm (by simp) (hw _ λl ob=>?_)
 simp only[yG,ku,tL.2.1 n l t ht,List.map_cons,List.map_nil,gK]
theorem aX.jT {P:Program}{D:TypeId→ay}{T:Know}{f:FuncId}{n t u:Nat}{C:LC}{args:List PV}{r:PV}(h:aX P f n [.tmp t,.tmp u] C)(d:Nat)(hD:∀t,eP P t (D t))(hT:r9 P none vT T)(hm:P.follows .mixedOrders=true)(ht:t<n)(hu:u<n)
  (hw:∀Q:Exit→St→Prop,(∀l ob,Q .ret ⟨dR n l,ob⟩=(r=.bP [iH d 0 ob (qQ l t),iH d 0 ob (qQ l u)]))→gY P D T C Q (aU args n)):av P f args [] r []:=by
 refine h.pure d hD hT hm (by simp) (hw _ λl ob=>?_)
 simp only[yG,ku,tL.2.1 n l t ht,tL.2.1 n l u hu,List.map_cons,List.map_nil,gK]
theorem pkR(x y:PV)(objs:List Obj)(K:KT):(rW (.bool true) x y objs K=K x objs 0)∧(rW (.bool false) x y objs K=K y objs 0):=⟨rfl,rfl⟩
theorem VT(P:Program)(D:TypeId→ay)(T:Know)(w pt:Bool)(ev:Operand→PV)(objs:List Obj)(K:KT) :
  (∀x,jI P D T w pt ev objs (.next x false) K=(T.rg=true∧nextR (ev x) objs K))∧(∀t x,jI P D T w pt ev objs (.range t x) K=qG D t (ev x) objs K)∧(∀x,jI P D T w pt ev objs (.entry x) K=qH (ev x) objs K):=
 ⟨λ_=>rfl,λ_ _=>rfl,λ_=>rfl⟩
theorem aam :
  type_of% @JH∧
  type_of% @QY∧
  type_of% @Yq∧
  type_of% @aal∧
  type_of% @aaf∧
  type_of% @VS∧
  type_of% @Xq∧
  type_of% @hoR∧
  type_of% @Yx∧
  type_of% @Xp∧
  type_of% @r_∧
  type_of% @VR∧
  type_of% @fE∧
  type_of% @Pw∧
  type_of% @Dt∧
  type_of% @KC∧
  type_of% @Du∧
  type_of% @TN∧
  type_of% @skR∧
  type_of% @atR∧
  type_of% @exS∧
  type_of% @aak:=
 ⟨@JH,@QY,@Yq,@aal,@aaf,@VS,@Xq,@hoR,@Yx,@Xp,@r_,@VR,@fE,@Pw,@Dt,@KC,@Du,@TN,@skR,@atR,@exS,@aak⟩
theorem Xr :
  type_of% @QY∧
  type_of% @Yq∧
  type_of% @tK∧
  type_of% @tL∧
  type_of% @TH∧
  type_of% @VS∧
  type_of% @Yx∧
  type_of% @Yz∧
  type_of% @yG∧
  type_of% @Gy∧
  type_of% @Nt∧
  type_of% @Yw∧
  type_of% @z_∧
  type_of% @dX∧
  type_of% @keepR∧
  type_of% @aai∧
  type_of% @VR∧
  type_of% @fE∧
  type_of% @pkR∧
  type_of% @Sl∧
  type_of% @Pw∧
  type_of% @Dr∧
  type_of% @TF∧
  type_of% @KD∧
  type_of% @tH∧
  type_of% @Ip∧
  type_of% @Iq∧
  type_of% @TM∧
  type_of% @ldR∧
  type_of% @TN∧
  type_of% @skR∧
  type_of% @Zq∧
  type_of% @atR∧
  type_of% @aah∧
  type_of% @puR∧
  type_of% @TP∧
  type_of% @Xo:=
 ⟨@QY,@Yq,@tK,@tL,@TH,@VS,@Yx,@Yz,@yG,@Gy,@Nt,@Yw,@z_,@dX,@keepR,@aai,@VR,@fE,@pkR,@Sl,@Pw,@Dr,@TF,@KD,@tH,@Ip,@Iq,@TM,@ldR,@TN,@skR,@Zq,@atR,@aah,@puR,@TP,@Xo⟩
theorem Xt :
  type_of% @decide_true∧
  type_of% @decide_false∧
  type_of% @not_true_eq_false∧
  type_of% @not_false_eq_true∧
  type_of% @false_and∧
  type_of% @and_false∧
  type_of% @cond_true.{1}∧
  type_of% @cond_false.{1}∧
  type_of% @List.take_zero.{0}∧
  type_of% @ne_eq.{1}∧
  type_of% @true_and∧
  type_of% @PV.bool.injEq∧
  type_of% @Int.toNat_natCast∧
  type_of% @Int.toNat_zero∧
  type_of% @Bool.not_false∧
  type_of% @Bool.not_true∧
  type_of% @Bool.and_self∧
  type_of% @Bool.false_eq_true∧
  type_of% @Bool.true_eq_false∧
  type_of% @forall_const.{1}∧
  type_of% @false_implies∧
  type_of% @true_implies∧
  type_of% @and_true∧
  type_of% @implies_true.{1}∧
  type_of% @implies_true.{0}∧
  type_of% @forall_const.{0}∧
  type_of% @Nat.zero_add∧
  type_of% @List.length_map.{0,0}∧
  type_of% @List.length_cons.{0}∧
  type_of% @List.length_nil.{0}∧
  type_of% @List.nil_append.{0}∧
  type_of% @List.map_cons.{0,0}∧
  type_of% @List.map_nil.{0,0}∧
  type_of% @Bool.true_or∧
  type_of% @List.getElem?_cons_zero.{0}∧
  type_of% @List.getElem?_cons_succ.{0}∧
  type_of% @Option.map_some.{0,0}∧
  type_of% @or_true∧
  type_of% @List.getElem?_map.{0,0}∧
  type_of% @List.length_replicate.{0}∧
  type_of% @List.all_cons.{0}∧
  type_of% @List.all_nil.{0}∧
  type_of% @Bool.and_true∧
  type_of% @Bool.true_and∧
  type_of% @Bool.false_or∧
  type_of% @Bool.or_false∧
  type_of% @Nat.le_refl∧
  type_of% @Nat.lt_add_one∧
  type_of% @List.length_append.{0}:=
 ⟨@decide_true,@decide_false,@not_true_eq_false,@not_false_eq_true,@false_and,@and_false,@cond_true.{1},@cond_false.{1},@List.take_zero.{0},@ne_eq.{1},@true_and,@PV.bool.injEq,@Int.toNat_natCast,@Int.toNat_zero,@Bool.not_false,@Bool.not_true,@Bool.and_self,@Bool.false_eq_true,@Bool.true_eq_false,@forall_const.{1},@false_implies,@true_implies,@and_true,@implies_true.{1},@implies_true.{0},@forall_const.{0},@Nat.zero_add,@List.length_map.{0,0},@List.length_cons.{0},@List.length_nil.{0},@List.nil_append.{0},@List.map_cons.{0,0},@List.map_nil.{0,0},@Bool.true_or,@List.getElem?_cons_zero.{0},@List.getElem?_cons_succ.{0},@Option.map_some.{0,0},@or_true,@List.getElem?_map.{0,0},@List.length_replicate.{0},@List.all_cons.{0},@List.all_nil.{0},@Bool.and_true,@Bool.true_and,@Bool.false_or,@Bool.or_false,@Nat.le_refl,@Nat.lt_add_one,@List.length_append.{0}⟩
theorem Xu{D:TypeId→ay}{t:TypeId}{k k':IntKind}{n m:Int}{objs:List Obj}{K:KT}:dJ D t (.int k n) (.int k' m) objs K=
  Gz (D t).kind λe=>(D e).kind≠.none∧(aG (D e)).cells.length=(D e).size∧(D e).size≠0∧(aG (D e)).cells.all PV.storable=true∧0≤n∧n≤m∧m≤9223372036854775807∧(D e).bytes*m≤281474976710656∧
   K (.aW objs.length 1) (newObj objs e (D e).size (List.replicate n.toNat (aG (D e)))) (5+2*objs.length):=by
 unfold dJ Gz
 cases (D t).kind<;>rfl
theorem aan:type_of% @gP.eq_1∧type_of% @gP.eq_2∧type_of% @gP.eq_3∧type_of% @gP.eq_4∧type_of% @gP.eq_5∧type_of% @gP.eq_6∧type_of% @gP.eq_7∧type_of% @gP.eq_8∧type_of% @bR.eq_1∧type_of% @bR.eq_2∧type_of% @bR.eq_3∧type_of% @dD.eq_1:=⟨@gP.eq_1,@gP.eq_2,@gP.eq_3,@gP.eq_4,@gP.eq_5,@gP.eq_6,@gP.eq_7,@gP.eq_8,@bR.eq_1,@bR.eq_2,@bR.eq_3,@dD.eq_1⟩
theorem aao:type_of% @JF.eq_1∧type_of% @JF.eq_2∧type_of% @JF.eq_3∧type_of% @ku.eq_1∧type_of% @ku.eq_2∧type_of% @ku.eq_3∧type_of% @gK.eq_1∧type_of% @gK.eq_2∧type_of% @gP.eq_1∧type_of% @gP.eq_2∧type_of% @gP.eq_3∧type_of% @gP.eq_4∧type_of% @gP.eq_5∧type_of% @gP.eq_6∧type_of% @gP.eq_7∧type_of% @gP.eq_8∧type_of% @bR.eq_1∧type_of% @bR.eq_2∧type_of% @bR.eq_3∧type_of% @dD.eq_1∧type_of% @Hu.eq_1∧type_of% @pE.eq_1∧type_of% @newObj.eq_1∧type_of% @aG.eq_1∧type_of% @bB.eq_1∧type_of% @dh.eq_1∧type_of% @gy.eq_1∧type_of% @gy.eq_2∧type_of% @iq.eq_1∧type_of% @iq.eq_2∧type_of% @St.freeze.eq_1∧type_of% @Xu∧type_of% @fH.eq_1∧type_of% @fH.eq_2∧type_of% @jg.eq_1:=⟨@JF.eq_1,@JF.eq_2,@JF.eq_3,@ku.eq_1,@ku.eq_2,@ku.eq_3,@gK.eq_1,@gK.eq_2,@gP.eq_1,@gP.eq_2,@gP.eq_3,@gP.eq_4,@gP.eq_5,@gP.eq_6,@gP.eq_7,@gP.eq_8,@bR.eq_1,@bR.eq_2,@bR.eq_3,@dD.eq_1,@Hu.eq_1,@pE.eq_1,@newObj.eq_1,@aG.eq_1,@bB.eq_1,@dh.eq_1,@gy.eq_1,@gy.eq_2,@iq.eq_1,@iq.eq_2,@St.freeze.eq_1,@Xu,@fH.eq_1,@fH.eq_2,@jg.eq_1⟩
end Lp
namespace Lp
open Go
variable {P:Program}
def VU:Option TypeDesc→PV→PV→Bool
 | some (.int k),.int k1 _,.int k2 _=>decide (k1=k2)
 | some .bool,.bool _,.bool _=>true
 | some .string,.str _,.str _=>true
 | _,_,_=>false
def KH(P:Program):Nat→List Field→List PV→List PV→Bool
 | _,[],[],[]=>true
 | k,f::fs,p::aa,q::bs=>(f.name != "_") && f.offset==k && VU (P.underlying f.type) p q && KH P (k+1) fs aa bs
 | _,_,_,_=>false
theorem KI{w:World}{t:TypeId}{xs:Array Value}{o:Nat}{v:Value}{d:TypeDesc}(hu:P.underlying t=some d)(hd:(∃k,d=.int k)∨d=.bool∨d=.string)(hv:xs[o]?=some v):(part t xs o).run P w=.ok v w:=by
 rcases hd with ⟨k,rfl⟩ | rfl | rfl
 all_goals simp[part,isAgg,run_underlying hu,hv]
theorem YH{w:World}{d:Nat}{t:TypeId}{p q:PV}{v u:Value}{ok:Nat→Prop}(hf:VU (P.underlying t) p q=true)(hv:bQ w ok p v)(hu:bQ w ok q u) :
  ∃b,Ze p q=some b∧(Op.equalIn (d+1) t v u).run P w=.ok b w∧∃e,P.underlying t=some e∧((∃k,e=.int k)∨e=.bool∨e=.string):=by
 unfold VU at hf
 split at hf
 ·rename_i k k1 a k2 b hk
  have:k1=k2:=by simpa using hf
  subst this
  cases hv;cases hu
  exact⟨decide (a=b),by simp[Ze],by rw[run_equalIn_int w d t k1 k a b hk];rfl,_,hk,.inl ⟨_,rfl⟩⟩
 ·rename_i a b hk
  cases hv;cases hu
  exact⟨a==b,rfl,run_equalIn_bool' w d t a b hk,_,hk,.inr (.inl rfl)⟩
 ·rename_i a b hk
  cases hv;cases hu
  refine⟨decide (a=b),rfl,?_,_,hk,.inr (.inr rfl)⟩
  rw[run_equalIn_string w d t _ _ hk]
  congr 1
  simp only[ByteArray.toList_eq]
  by_cases h:a=b
  ·simp[h]
  ·simp[h]
 ·cases hf
theorem Py{w:World}{d:Nat}{ok:Nat→Prop}{xs ys:Array Value}:∀(fs:List Field) (k:Nat) (aa bs:List PV) (r:Bool),KH P k fs aa bs=true→MO aa bs=some r→
  (∀i p,aa[i]?=some p→∃v,xs[k+i]?=some v∧bQ w ok p v)→(∀i p,bs[i]?=some p→∃v,ys[k+i]?=some v∧bQ w ok p v)→
  (Op.eqFields (d+1) xs ys fs).run P w=.ok r w
 | [],k,aa,bs,r,hf,he,_,_=>by
  cases aa<;>cases bs<;>simp[KH]at hf
  simp only[MO,Option.some.injEq]at he
  subst he
  rfl
 | f::fs,k,aa,bs,r,hf,he,ha,hb=>by
  cases aa with
  | nil=>cases bs<;>simp[KH]at hf
  | cons p aa=>
   cases bs with
   | nil=>simp[KH]at hf
   | cons q bs=>
    simp only[KH,Bool.and_eq_true,beq_iff_eq,bne_iff_ne]at hf
    obtain⟨⟨⟨hn,ho⟩,ht⟩,hr⟩:=hf
    obtain⟨v,hv,rv⟩:=ha 0 p rfl
    obtain⟨u,hu,ru⟩:=hb 0 q rfl
    obtain⟨b,hb1,hb2,e,he1,he2⟩:=YH (d:=d) ht rv ru
    simp only[MO,hb1]at he
    cases hq:MO aa bs with
    | none=>rw[hq]at he;simp at he
    | some r'=>
     rw[hq]at he
     simp only[Option.some.injEq]at he
     subst he
     have ih:=Py (w:=w) (d:=d) (ok:=ok) (xs:=xs) (ys:=ys) fs (k+1) aa bs r' hr hq (λi p h=>by have:=ha (i+1) p (by simpa using h);rwa[show k+(i+1)=k+1+i by omega]at this) (λi p h=>by have:=hb (i+1) p (by simpa using h);rwa[show k+(i+1)=k+1+i by omega]at this)
     have p1:=KI (w:=w) (xs:=xs) (o:=f.offset) he1 he2 (by rw[ho];simpa using hv)
     have p2:=KI (w:=w) (xs:=ys) (o:=f.offset) he1 he2 (by rw[ho];simpa using hu)
     simp only[Op.eqFields,ne_eq,hn,not_false_eq_true,if_true,Sem.run_bind,p1,Result.andThen_ok,p2,hb2]
     cases b
     ·simp
     ·simpa using ih
theorem VW{t:TypeId}{aa bs:List PV}(hg:P.eqGuardType P.depth t=false)(ht:P.underlying t=some (.struct (P.fieldsOf t)))(hp:P.stoodInHeld t=false)(hf:KH P 0 (P.fieldsOf t).toList aa bs=true):MP P t aa bs:=by
 refine⟨hg,λw ok vs us r hr h1 h2=>?_⟩
 have e:Op.equal t (.agg ⟨vs⟩) (.agg ⟨us⟩)=Op.equalIn (9999+1) t (.agg ⟨vs⟩) (.agg ⟨us⟩):=rfl
 rw[e,run_equalIn_struct w 9999 t _ _ ht hp]
 refine Py (d:=9998) (ok:=ok) _ 0 aa bs r hf hr ?_ ?_
 ·intro i p hi
  have hlt:=(List.getElem?_eq_some_iff.1 hi).1
  have hv:vs[i]?=some (vs[i]'(by rw[←h1.1];exact hlt)):=List.getElem?_eq_getElem _
  exact⟨_,by simpa using hv,h1.2 i p _ hi hv⟩
 ·intro i p hi
  have hlt:=(List.getElem?_eq_some_iff.1 hi).1
  have hv:us[i]?=some (us[i]'(by rw[←h2.1];exact hlt)):=List.getElem?_eq_getElem _
  exact⟨_,by simpa using hv,h2.2 i p _ hi hv⟩
end Lp
namespace Lp
open Go Go.Proofs
def oJ(l:List (List UInt8)):PV:=.sl 1 (l.map .str) none
def dV(l:List Vl):PV:=.sl 1 (l.map ak) none
def encI(l:List Int):PV:=.sl 1 (l.map (.int .i64)) none
def Dw(l:List (List Int)):PV:=.sl 1 (l.map encI) none
theorem hV:∀l,ak l=.sl 6 (l.map aM) none:=λ_=>rfl
theorem hT:∀l,oJ l=.sl 1 (l.map .str) none:=λ_=>rfl
theorem hL:∀l,dV l=.sl 1 (l.map ak) none:=λ_=>rfl
theorem hI:∀l,encI l=.sl 1 (l.map (.int .i64)) none:=λ_=>rfl
theorem hG:∀l,Dw l=.sl 1 (l.map encI) none:=λ_=>rfl
theorem tT:∀a b,aM a=aM b→a=b:=by
 intro a b h
 cases a;cases b
 simp only[aM,PV.agg.injEq,List.cons.injEq,PV.int.injEq,PV.str.injEq,PV.bool.injEq,true_and,and_true]at h
 obtain⟨rfl,rfl,rfl,rfl,rfl,rfl⟩:=h
 rfl
theorem kP:∀a b,ak a=ak b→a=b:=o6 hV tT
theorem yN:∀a b,oJ a=oJ b→a=b:=o6 hT λ_ _ h=>by injection h
theorem tV:∀a b,encI a=encI b→a=b:=o6 hI λ_ _ h=>by injection h
theorem yO:∀a b,dV a=dV b→a=b:=o6 hL kP
theorem yP:∀a b,Dw a=Dw b→a=b:=o6 hG tV
theorem Xv(objs:List Obj)(K:KT) :
  (∀n,aN D 46 (.addr (aM n)) 0 objs K=K (.addr (.int .i64 n.kind)) objs 0)∧
  (∀n,aN D 46 (.addr (aM n)) 1 objs K=K (.addr (.int .i64 n.many)) objs 0)∧
  (∀n,aN D 46 (.addr (aM n)) 2 objs K=K (.addr (.str n.name)) objs 0)∧
  (∀n,aN D 46 (.addr (aM n)) 3 objs K=K (.addr (.str n.s)) objs 0)∧
  (∀n,aN D 46 (.addr (aM n)) 4 objs K=K (.addr (.bool n.neg)) objs 0)∧
  (∀n,aN D 46 (.addr (aM n)) 5 objs K=K (.addr (.int .i64 n.e)) objs 0):=by
 refine⟨λn=>?_,λn=>?_,λn=>?_,λn=>?_,λn=>?_,λn=>?_⟩
 all_goals
  simp only[aM,aN,dD,dL,↓KC,KD,tH,z_,Ip,Iq,ne_eq,reduceCtorEq,not_false_eq_true,true_and,Bool.not_false,Bool.and_self,Nat.reduceAdd,Nat.reduceLeDiff,forall_const]
theorem Xw :
  (∀n,(aM n).cells=[.int .i64 n.kind,.int .i64 n.many,.str n.name,.str n.s,.bool n.neg,.int .i64 n.e])∧
  (∀n,(aM n).isAgg=true)∧(∀n,(aM n).pure=true)∧(∀d m O n,fB d m O (aM n)=aM n)∧(∀d m O n,iH d m O (aM n)=aM n):=
 ⟨λ_=>rfl,λ_=>rfl,λ_=>rfl,λ_ _ _ _=>rfl,λ_ _ _ _=>rfl⟩
theorem Xx(a b:Nd):MP Tryz.prog 46 (aM a).cells (aM b).cells:=
 VW (by kernel_rfl) (by kernel_rfl) (by kernel_rfl) (by
  have h:(Tryz.prog.fieldsOf 46).toList.map (λf=>(f.name != "_",f.offset,Tryz.prog.underlying f.type))=[(true,0,some (.int .i64)),(true,1,some (.int .i64)),(true,2,some .string),(true,3,some .string),(true,4,some .bool),(true,5,some (.int .i64))]:=by kernel_rfl
  generalize (Tryz.prog.fieldsOf 46).toList=fs at h
  obtain _ | ⟨f0,_ | ⟨f1,_ | ⟨f2,_ | ⟨f3,_ | ⟨f4,_ | ⟨f5,_ | ⟨f6,fr⟩⟩⟩⟩⟩⟩⟩:=fs
  all_goals simp only[List.map_cons,List.map_nil,List.cons.injEq,Prod.mk.injEq,and_true,reduceCtorEq,and_false]at h
  obtain⟨⟨a0,b0,c0⟩,⟨a1,b1,c1⟩,⟨a2,b2,c2⟩,⟨a3,b3,c3⟩,⟨a4,b4,c4⟩,⟨a5,b5,c5⟩⟩:=h
  simp only[KH,VU,aM,PV.cells,a0,b0,c0,a1,b1,c1,a2,b2,c2,a3,b3,c3,a4,b4,c4,a5,b5,c5,Bool.and_true,BEq.rfl,decide_true,Nat.zero_add,Nat.reduceAdd])
theorem aap(a b:Nd):MO (aM a).cells (aM b).cells=some (decide (a=b)):=by
 cases a;cases b
 simp only[aM,PV.cells,MO,Ze,if_true,Bool.and_true,Nd.mk.injEq,Option.some.injEq]
 rw[Bool.eq_iff_iff]
 simp
theorem TR(ti:ay)(K:PV→Prop) :
  (∀a b,nQ Tryz.prog ti 46 .eql (aM a) (aM b) K=K (.bool (decide (a=b))))∧
  (∀a b,nQ Tryz.prog ti 46 .neq (aM a) (aM b) K=K (.bool (!decide (a=b))))∧
  (∀a k m x y g e,nQ Tryz.prog ti 46 .eql (aM a) (.agg [.int .i64 k,.int .i64 m,.str x,.str y,.bool g,.int .i64 e]) K=K (.bool (decide (a=⟨k,m,x,y,g,e⟩)))):=by
 have h:∀a b,nQ Tryz.prog ti 46 .eql (aM a) (aM b) K=K (.bool (decide (a=b))):=λa b=>by
  show (MP Tryz.prog 46 (aM a).cells (aM b).cells∧∃r,MO (aM a).cells (aM b).cells=some r∧K (.bool r))=_
  rw[aap]
  simp[Xx]
 refine⟨h,λa b=>?_,λa k m x y g e=>h a ⟨k,m,x,y,g,e⟩⟩
 show (MP Tryz.prog 46 (aM a).cells (aM b).cells∧∃r,MO (aM a).cells (aM b).cells=some r∧K (.bool (!r)))=_
 rw[aap]
 simp[Xx]
theorem Xy(n:Nd) :
  (∀x,(aM n).putCells 0 [.int .i64 x]=aM { n with kind:=x })∧(∀x,(aM n).putCells 1 [.int .i64 x]=aM { n with many:=x })∧
  (∀x,(aM n).putCells 2 [.str x]=aM { n with name:=x })∧(∀x,(aM n).putCells 3 [.str x]=aM { n with s:=x })∧
  (∀x,(aM n).putCells 4 [.bool x]=aM { n with neg:=x })∧(∀x,(aM n).putCells 5 [.int .i64 x]=aM { n with e:=x }):=
 ⟨λ_=>rfl,λ_=>rfl,λ_=>rfl,λ_=>rfl,λ_=>rfl,λ_=>rfl⟩
theorem Xz(k m:Int)(x y:List UInt8)(g:Bool)(e:Int):PV.agg [.int .i64 k,.int .i64 m,.str x,.str y,.bool g,.int .i64 e]=aM ⟨k,m,x,y,g,e⟩:=rfl
theorem XA(objs:List Obj)(K:KT) :
  (∀k,cO D 46 [(0,.int .i64 k)] objs K=K (aM ⟨k,0,[],[],false,0⟩) objs 0)∧
  (∀k m,cO D 46 [(0,.int .i64 k),(1,.int .i64 m)] objs K=K (aM ⟨k,m,[],[],false,0⟩) objs 0)∧
  (∀k s,cO D 46 [(0,.int .i64 k),(3,.str s)] objs K=K (aM ⟨k,0,[],s,false,0⟩) objs 0)∧
  (∀k s g e,cO D 46 [(0,.int .i64 k),(3,.str s),(4,.bool g),(5,.int .i64 e)] objs K=K (aM ⟨k,0,[],s,g,e⟩) objs 0):=by
 have z:aG (D 46)=aM ⟨0,0,[],[],false,0⟩:=by kernel_rfl
 have a:(D 46).agg=true:=by kernel_rfl
 simp only[dL]at z a
 refine⟨λk=>?_,λk m=>?_,λk s=>?_,λk s g e=>?_⟩
 all_goals
  simp[cO,mr,a,z,dL,mO,aM,PV.isAgg,sK,PV.cells,PV.storable,PV.lg,PV.pure]
theorem XB :
  (∀n0,PV.sl 6 [aM n0] none=ak [n0])∧
  (∀n0 n1,PV.sl 6 [aM n0,aM n1] none=ak [n0,n1])∧
  (∀n0 n1 n2,PV.sl 6 [aM n0,aM n1,aM n2] none=ak [n0,n1,n2])∧
  (∀s0,PV.sl 1 [PV.str s0] none=oJ [s0])∧
  (∀s0 s1,PV.sl 1 [PV.str s0,PV.str s1] none=oJ [s0,s1])∧
  (∀s0 s1 s2,PV.sl 1 [PV.str s0,PV.str s1,PV.str s2] none=oJ [s0,s1,s2])∧
  (∀i0,PV.sl 1 [PV.int .i64 i0] none=encI [i0])∧
  (∀i0 i1,PV.sl 1 [PV.int .i64 i0,PV.int .i64 i1] none=encI [i0,i1])∧
  (∀i0 i1 i2,PV.sl 1 [PV.int .i64 i0,PV.int .i64 i1,PV.int .i64 i2] none=encI [i0,i1,i2])∧
  (∀v0,PV.sl 1 [ak v0] none=dV [v0])∧
  (∀v0 v1,PV.sl 1 [ak v0,ak v1] none=dV [v0,v1])∧
  (∀v0 v1 v2,PV.sl 1 [ak v0,ak v1,ak v2] none=dV [v0,v1,v2])∧
  (∀g0,PV.sl 1 [encI g0] none=Dw [g0])∧
  (∀g0 g1,PV.sl 1 [encI g0,encI g1] none=Dw [g0,g1])∧
  (∀g0 g1 g2,PV.sl 1 [encI g0,encI g1,encI g2] none=Dw [g0,g1,g2]):=
 ⟨λ_=>rfl,λ_ _=>rfl,λ_ _ _=>rfl,λ_=>rfl,λ_ _=>rfl,λ_ _ _=>rfl,λ_=>rfl,λ_ _=>rfl,λ_ _ _=>rfl,λ_=>rfl,λ_ _=>rfl,λ_ _ _=>rfl,λ_=>rfl,λ_ _=>rfl,λ_ _ _=>rfl⟩
theorem inN:wF aM:=by intro d n o x;cases d<;>rfl
theorem inV:wF ak:=by intro d n o x;cases d<;>rfl
theorem inS:wF PV.str:=by intro d n o x;cases d<;>rfl
theorem inI:wF (PV.int .i64):=by intro d n o x;cases d<;>rfl
theorem inG:wF encI:=by intro d n o x;cases d<;>rfl
theorem aaq :
  type_of% (kz hV)∧
  type_of% (kz hT)∧
  type_of% (kz hL)∧
  type_of% (kz hI)∧
  type_of% (kz hG)∧
  type_of% (aR tT)∧
  type_of% (aR kP)∧
  type_of% (aR yN)∧
  type_of% (aR yO)∧
  type_of% (aR tV)∧
  type_of% (aR yP):=
 ⟨kz hV,kz hT,kz hL,kz hI,kz hG,aR tT,aR kP,aR yN,aR yO,aR tV,aR yP⟩
theorem XC :
  type_of% (Xv)∧
  type_of% (Xw)∧
  type_of% (TR)∧
  type_of% (Xy)∧
  type_of% (Xz)∧
  type_of% (XA)∧
  type_of% (XB)∧
  type_of% (vX hV)∧
  type_of% (vX hT)∧
  type_of% (vX hL)∧
  type_of% (vX hI)∧
  type_of% (vX hG)∧
  type_of% (kz hV)∧
  type_of% (kz hT)∧
  type_of% (kz hL)∧
  type_of% (kz hI)∧
  type_of% (kz hG)∧
  type_of% (vY hV)∧
  type_of% (vY hT)∧
  type_of% (vY hL)∧
  type_of% (vY hI)∧
  type_of% (vY hG)∧
  type_of% (aR tT)∧
  type_of% (aR kP)∧
  type_of% (aR yN)∧
  type_of% (aR yO)∧
  type_of% (aR tV)∧
  type_of% (aR yP)∧
  type_of% (iw hV inN)∧
  type_of% (iw hT inS)∧
  type_of% (iw hL inV)∧
  type_of% (iw hI inI)∧
  type_of% (iw hG inG)∧
  type_of% (tQ (enc:=aM) (sz:=6) (λ_=>rfl) (λ_=>rfl))∧
  type_of% (tQ (enc:=ak) (sz:=1) (λ_=>rfl) (λ_=>rfl))∧
  type_of% (tQ (enc:=PV.str) (sz:=1) (λ_=>rfl) (λ_=>rfl))∧
  type_of% (tQ (enc:=(PV.int .i64)) (sz:=1) (λ_=>rfl) (λ_=>rfl))∧
  type_of% (tQ (enc:=encI) (sz:=1) (λ_=>rfl) (λ_=>rfl))∧
  type_of% (tQ (enc:=PV.bool) (sz:=1) (λ_=>rfl) (λ_=>rfl))∧
  type_of% (λ(l:Vl) (k:Nat)=>ME (ak l) rfl k)∧
  type_of% (λ(l:List (List UInt8)) (k:Nat)=>ME (oJ l) rfl k)∧
  type_of% (λ(l:List Vl) (k:Nat)=>ME (dV l) rfl k)∧
  type_of% (λ(l:List Int) (k:Nat)=>ME (encI l) rfl k)∧
  type_of% (λ(l:List (List Int)) (k:Nat)=>ME (Dw l) rfl k)∧
  type_of% (λ(z:Nat) (xs:List PV) (q:Option Bool) (k:Nat)=>ME (.sl z xs q) rfl k):=
 ⟨Xv,Xw,TR,Xy,Xz,XA,XB,vX hV,vX hT,vX hL,vX hI,vX hG,kz hV,kz hT,kz hL,kz hI,kz hG,vY hV,vY hT,vY hL,vY hI,vY hG,aR tT,aR kP,aR yN,aR yO,aR tV,aR yP,iw hV inN,iw hT inS,iw hL inV,iw hI inI,iw hG inG,tQ (enc:=aM) (sz:=6) (λ_=>rfl) (λ_=>rfl),tQ (enc:=ak) (sz:=1) (λ_=>rfl) (λ_=>rfl),tQ (enc:=PV.str) (sz:=1) (λ_=>rfl) (λ_=>rfl),tQ (enc:=(PV.int .i64)) (sz:=1) (λ_=>rfl) (λ_=>rfl),tQ (enc:=encI) (sz:=1) (λ_=>rfl) (λ_=>rfl),tQ (enc:=PV.bool) (sz:=1) (λ_=>rfl) (λ_=>rfl),λ(l:Vl) (k:Nat)=>ME (ak l) rfl k,λ(l:List (List UInt8)) (k:Nat)=>ME (oJ l) rfl k,λ(l:List Vl) (k:Nat)=>ME (dV l) rfl k,λ(l:List Int) (k:Nat)=>ME (encI l) rfl k,λ(l:List (List Int)) (k:Nat)=>ME (Dw l) rfl k,λ(z:Nat) (xs:List PV) (q:Option Bool) (k:Nat)=>ME (.sl z xs q) rfl k⟩
theorem aI:type_of% @aam∧type_of% @aaq∧type_of% @aan:=⟨@aam,@aaq,@aan⟩
theorem aJ:type_of% @Xr∧type_of% @Xt∧type_of% @XC∧type_of% dL∧type_of% @aao:=⟨@Xr,@Xt,@XC,dL,@aao⟩
end Lp
namespace Lp
open Go Go.Proofs
end Lp
namespace Lp
open Go Go.Proofs
end Lp
namespace Lp
open Go Go.Proofs
theorem Nv:aX Tryz.prog 65 8 [.tmp 4] (gen [] [] [] Tryz.f65):=bT Tryz.func65 rfl (by kernel_rfl)
theorem kQ:aX Tryz.prog 87 26 [.tmp 4] (gen [] [(12291,none)] [] Tryz.f87):=bT Tryz.func87 rfl (by kernel_rfl)
theorem EU:aX Tryz.prog 73 48 [.tmp 2] (gen [] [] [2] Tryz.f73):=bT Tryz.func73 rfl (by kernel_rfl)
theorem KJ:aX Tryz.prog 101 54 [.tmp 2] (gen [] [] [1] Tryz.f101):=bT Tryz.func101 rfl (by kernel_rfl)
theorem EW:aX Tryz.prog 122 17 [.tmp 4] (gen [] [] [] Tryz.f122):=bT Tryz.func122 rfl (by kernel_rfl)
theorem BH:aX Tryz.prog 123 6 [.tmp 2] (gen [] [] [] Tryz.f123):=bT Tryz.func123 rfl (by kernel_rfl)
theorem KL:aX Tryz.prog 49 123 [.tmp 2] (gen [9] [(7177,some (1,1)),(7209,none)] [19] Tryz.f49):=bT Tryz.func49 rfl (by kernel_rfl)
theorem EX:aX Tryz.prog 75 6 [.tmp 2] (gen [] [] [] Tryz.f75):=bT Tryz.func75 rfl (by kernel_rfl)
theorem gU:aX Tryz.prog 74 9 [.tmp 4] (gen [] [] [] Tryz.f74):=bT Tryz.func74 rfl (by kernel_rfl)
theorem iJ:aX Tryz.prog 102 19 [.tmp 4] (gen [] [(387,none)] [] Tryz.f102):=bT Tryz.func102 rfl (by kernel_rfl)
theorem Nw:aX Tryz.prog 53 10 [.tmp 2] (gen [6] [] [] Tryz.f53):=bT Tryz.func53 rfl (by kernel_rfl)
theorem kC:aX Tryz.prog 81 36 [.tmp 2] (gen [] [(3593,none),(234881088,none)] [] Tryz.f81):=bT Tryz.func81 rfl (by kernel_rfl)
theorem Ny:aX Tryz.prog 78 35 [.tmp 4] (gen [12] [(57377,none)] [] Tryz.f78):=bT Tryz.func78 rfl (by kernel_rfl)
theorem KM:aX Tryz.prog 56 21 [.cell 4 23,.cell 5 4] (gen [] [(0,none)] [] Tryz.f56):=bT Tryz.func56 rfl (by kernel_rfl)
end Lp
namespace Lp
open Go Go.Proofs
end Lp
namespace Lp
open Go Go.Proofs
theorem iR:aX Tryz.prog 77 54 [.tmp 4,.tmp 5] (gen [] [(451,none)] [] Tryz.f77):=bT Tryz.func77 rfl (by kernel_rfl)
theorem qR:aX Tryz.prog 104 6 [.tmp 2] (gen [] [] [] Tryz.f104):=bT Tryz.func104 rfl (by kernel_rfl)
theorem w_:aX Tryz.prog 103 17 [.tmp 4] (gen [] [] [] Tryz.f103):=bT Tryz.func103 rfl (by kernel_rfl)
theorem EY:aX Tryz.prog 57 27 [.tmp 4] (gen [] [(0,none)] [] Tryz.f57):=bT Tryz.func57 rfl (by kernel_rfl)
theorem Nz:aX Tryz.prog 51 36 [.tmp 6] (gen [28,33] [] [] Tryz.f51):=bT Tryz.func51 rfl (by kernel_rfl)
end Lp
namespace Lp
open Go Go.Proofs
end Lp
namespace Lp
open Go Go.Proofs
end Lp
namespace Lp
open Go Go.Proofs
end Lp
namespace Lp
open Go Go.Proofs
end Lp
namespace Lp
open Go Go.Proofs
end Lp
namespace Lp
open Go Go.Proofs
end Lp
namespace Lp
open Go Go.Proofs
end Lp
namespace Lp
open Go Go.Proofs
theorem jv:aX Tryz.prog 95 4 [.tmp 2] (gen [] [] [] Tryz.f95):=bT Tryz.func95 rfl (by kernel_rfl)
theorem iT:aX Tryz.prog 120 19 [] (gen [] [(11,none)] [] Tryz.f120):=bT Tryz.func120 rfl (by kernel_rfl)
theorem EZ:aX Tryz.prog 119 80 [.tmp 4] (gen [] [(0,some (1,3)),(0,none)] [3] Tryz.f119):=bT Tryz.func119 rfl (by kernel_rfl)
theorem BI:aX Tryz.prog 94 83 [.tmp 4] (gen [45,81] [(4067,none)] [6] Tryz.f94):=bT Tryz.func94 rfl (by kernel_rfl)
theorem yQ:aX Tryz.prog 118 25 [] (gen [] [(31,none)] [] Tryz.f118):=bT Tryz.func118 rfl (by kernel_rfl)
theorem mF:aX Tryz.prog 96 9 [.tmp 4] (gen [] [] [] Tryz.f96):=bT Tryz.func96 rfl (by kernel_rfl)
theorem oK:aX Tryz.prog 121 19 [.tmp 4] (gen [] [(387,none)] [] Tryz.f121):=bT Tryz.func121 rfl (by kernel_rfl)
theorem KN:aX Tryz.prog 93 10 [.tmp 4] (gen [] [] [1] Tryz.f93):=bT Tryz.func93 rfl (by kernel_rfl)
theorem fA:aX Tryz.prog 116 8 [.tmp 2] (gen [5] [] [] Tryz.f116):=bT Tryz.func116 rfl (by kernel_rfl)
theorem E5:aX Tryz.prog 45 50 [.tmp 8] (gen [36,44,49] [] [] Tryz.f45):=bT Tryz.func45 rfl (by kernel_rfl)
theorem Iy:aX Tryz.prog 67 75 [.cell 8 4] (gen [39,66,72] [(0,none),(30786325580688,none)] [3,11005,7013] Tryz.f67):=bT Tryz.func67 rfl (by kernel_rfl)
theorem Iz:aX Tryz.prog 25 6 [.tmp 4] (gen [] [] [] Tryz.f25):=bT Tryz.func25 rfl (by kernel_rfl)
theorem Dx:aX Tryz.prog 44 8 [] (gen [7] [] [] Tryz.f44):=bT Tryz.func44 rfl (by kernel_rfl)
theorem ol:aX Tryz.prog 24 5 [.tmp 2] (gen [] [] [] Tryz.f24):=bT Tryz.func24 rfl (by kernel_rfl)
theorem iK:aX Tryz.prog 43 13 [.tmp 4] (gen [] [(0,some (0,2))] [0] Tryz.f43):=bT Tryz.func43 rfl (by kernel_rfl)
theorem KO:aX Tryz.prog 11 9 [.tmp 4] (gen [] [] [] Tryz.f11):=bT Tryz.func11 rfl (by kernel_rfl)
theorem E8:aX Tryz.prog 88 26 [.tmp 2] (gen [] [(14360,none)] [] Tryz.f88):=bT Tryz.func88 rfl (by kernel_rfl)
theorem Dy:aX Tryz.prog 66 76 [.tmp 8] (gen [25,28,30,31,57,64,72] [(15032387081,none)] [6] Tryz.f66):=bT Tryz.func66 rfl (by kernel_rfl)
theorem dz:aX Tryz.prog 90 16 [] (gen [] [(129,none)] [] Tryz.f90):=bT Tryz.func90 rfl (by kernel_rfl)
theorem fP:aX Tryz.prog 92 4 [.tmp 2] (gen [] [] [] Tryz.f92):=bT Tryz.func92 rfl (by kernel_rfl)
end Lp
namespace Lp
open Go Go.Proofs
structure Ed where
 kind:Int
 p:List Stp
 v:Vl
 deriving DecidableEq
def encS(s:Stp):PV:=.agg [.bool s.part,.str s.name,.int .i64 s.n]
def bJ(l:List Stp):PV:=.sl 3 (l.map encS) none
def jy(e:Ed):PV:=.agg [.int .i64 e.kind,bJ e.p,ak e.v]
def jG(l:List Ed):PV:=.sl 3 (l.map jy) none
theorem hPa:∀l,bJ l=.sl 3 (l.map encS) none:=λ_=>rfl
theorem TS:∀l,jG l=.sl 3 (l.map jy) none:=λ_=>rfl
theorem qg:∀a b,encS a=encS b→a=b:=by
 intro a b h
 cases a;cases b
 simp only[encS,PV.agg.injEq,List.cons.injEq,PV.int.injEq,PV.str.injEq,PV.bool.injEq,true_and,and_true]at h
 obtain⟨rfl,rfl,rfl⟩:=h
 rfl
theorem j4:∀a b,bJ a=bJ b→a=b:=o6 hPa qg
theorem tX:∀a b,jy a=jy b→a=b:=by
 intro a b h
 obtain⟨k,p,v⟩:=a
 obtain⟨k',p',v'⟩:=b
 simp only[jy,PV.agg.injEq,List.cons.injEq,PV.int.injEq,true_and,and_true]at h
 obtain⟨rfl,h1,h2⟩:=h
 rw[j4 _ _ h1,kP _ _ h2]
theorem vw:∀a b,jG a=jG b→a=b:=o6 TS tX
theorem aar(objs:List Obj)(K:KT) :
  (∀s,aN D 43 (.addr (encS s)) 0 objs K=K (.addr (.bool s.part)) objs 0)∧
  (∀s,aN D 43 (.addr (encS s)) 1 objs K=K (.addr (.str s.name)) objs 0)∧
  (∀s,aN D 43 (.addr (encS s)) 2 objs K=K (.addr (.int .i64 s.n)) objs 0)∧
  (∀s,aN D 38 (.addr (jy s)) 0 objs K=K (.addr (.int .i64 s.kind)) objs 0)∧
  (∀s,aN D 38 (.addr (jy s)) 1 objs K=K (.addr (bJ s.p)) objs 0)∧
  (∀s,aN D 38 (.addr (jy s)) 2 objs K=K (.addr (ak s.v)) objs 0):=by
 refine⟨λn=>?_,λn=>?_,λn=>?_,λn=>?_,λn=>?_,λn=>?_⟩
 all_goals
  simp only[jy,encS,bJ,ak,aN,dD,dL,↓KC,KD,tH,z_,Ip,Iq,ne_eq,reduceCtorEq,not_false_eq_true,true_and,Bool.not_false,Bool.and_self,Nat.reduceAdd,Nat.reduceLeDiff,forall_const,false_implies]
theorem aas :
  (∀s,(encS s).cells=[.bool s.part,.str s.name,.int .i64 s.n])∧
  (∀n,(encS n).isAgg=true)∧(∀n,(encS n).pure=true)∧(∀d m O n,fB d m O (encS n)=encS n)∧(∀d m O n,iH d m O (encS n)=encS n)∧
  (∀s,(jy s).cells=[.int .i64 s.kind,bJ s.p,ak s.v])∧
  (∀n,(jy n).isAgg=true)∧(∀n,(jy n).pure=true)∧(∀d m O n,fB d m O (jy n)=jy n)∧(∀d m O n,iH d m O (jy n)=jy n):=
 ⟨λ_=>rfl,λ_=>rfl,λ_=>rfl,λ_ _ _ _=>rfl,λ_ _ _ _=>rfl,λ_=>rfl,λ_=>rfl,λ_=>rfl,λ_ _ _ _=>rfl,λ_ _ _ _=>rfl⟩
theorem aat:wF encS:=by intro d n o x;cases d<;>rfl
theorem inE:wF jy:=by intro d n o x;cases d<;>rfl
theorem XD :
  (∀a0,PV.sl 3 [encS a0] none=bJ [a0])∧(∀a0,PV.sl 3 [jy a0] none=jG [a0]):=
 ⟨λ_=>rfl,λ_=>rfl⟩
theorem aau:type_of% (kz hPa)∧type_of% (kz TS)∧type_of% (aR qg)∧type_of% (aR j4)∧type_of% (aR tX)∧type_of% (aR vw):=
 ⟨kz hPa,kz TS,aR qg,aR j4,aR tX,aR vw⟩
theorem XE :
  type_of% (aar)∧type_of% (aas)∧type_of% (XD)∧
  type_of% (vX hPa)∧type_of% (vX TS)∧type_of% (kz hPa)∧type_of% (kz TS)∧type_of% (vY hPa)∧type_of% (vY TS)∧
  type_of% (aR qg)∧type_of% (aR j4)∧type_of% (aR tX)∧type_of% (aR vw)∧
  type_of% (iw hPa aat)∧type_of% (iw TS inE)∧
  type_of% (tQ (enc:=encS) (sz:=3) (λ_=>rfl) (λ_=>rfl))∧type_of% (tQ (enc:=jy) (sz:=3) (λ_=>rfl) (λ_=>rfl))∧
  type_of% (λ(l:List Stp) (k:Nat)=>ME (bJ l) rfl k)∧type_of% (λ(l:List Ed) (k:Nat)=>ME (jG l) rfl k):=
 ⟨aar,aas,XD,vX hPa,vX TS,kz hPa,kz TS,vY hPa,vY TS,aR qg,aR j4,aR tX,aR vw,iw hPa aat,iw TS inE,
  tQ (enc:=encS) (sz:=3) (λ_=>rfl) (λ_=>rfl),tQ (enc:=jy) (sz:=3) (λ_=>rfl) (λ_=>rfl),λ(l:List Stp) (k:Nat)=>ME (bJ l) rfl k,λ(l:List Ed) (k:Nat)=>ME (jG l) rfl k⟩
theorem aA:type_of% @aI∧type_of% @aau:=⟨@aI,@aau⟩
theorem aB:type_of% @aJ∧type_of% @XE:=⟨@aJ,@XE⟩
end Lp
namespace Lp
open Go Go.Proofs
theorem KP(v:Vl)(i c:Nat)(hv:v.length≤4611686018427387904)(h:skip (v.drop i) 1=some c):av Tryz.prog 108 [ak v,.int .i64 i] [] (.int .i64 (i+c:Nat)) []:=by
 refine Iu.pure (T:=bH Tryz.prog []) 0 hD (ax au) bM (by decide) ?_
 (conv=>arg 4;cbv);simp only[↓JH,QY,↓MB,↓Gv,↓MC,Gw,↓vU,↓r_,yG,ku,gK,Nt,Nat.reduceAdd,Nat.reduceSub,z_,dL,Sl,Pw,Dr]
 refine bA (λm S=>∃(j k c':Nat),m=c'∧skip (v.drop j) k=some c'∧j+c'=i+c∧S=⟨mkT 19 [(0,ak v),(1,.int .i64 j),(5,.int .i64 k)],[]⟩) c ⟨i,1,c,rfl,h,rfl,?_⟩ ?_
 ·simp only[Xn,ak,z_];rfl
 rintro m S ⟨j,k,c',rfl,hs,hj,rfl⟩
 simp only[↓JH,QY,↓MB,↓Gv,↓MC,Gw,↓vU,↓r_,yG,ku,gK,Nt,Nat.reduceAdd,Nat.reduceSub,z_,Xn,dL,ak,aM,Sl,Pw,Dr,aZ,dK,aN,dD,↓Dt,↓KC,KD,tH,Ip,Iq,Bool.not_false,Bool.and_self,Nat.reduceLeDiff,forall_const,ne_eq,reduceCtorEq,not_false_eq_true,true_and,PV.bool.injEq,Int.toNat_natCast,Nat.zero_add,decide_eq_true_eq,List.length_cons,List.length_nil]
 refine⟨λhk=>?_,λhk=>?_⟩
 ·obtain⟨k,rfl⟩:∃k',k=k'+1:=⟨k-1,by omega⟩
  have hjl:j<v.length:=by
   rcases Nat.lt_or_ge j v.length with h' | h'
   ·exact h'
   ·rw[List.drop_eq_nil_of_le h']at hs;simp[skip]at hs
  rw[List.drop_eq_getElem_cons hjl]at hs
  obtain⟨hm,c'',rfl,hs'⟩:=dw hs
  have hle:=iB _ _ _ hs'
  simp only[List.length_drop]at hle
  have hk2:((k+1:Nat):Int)+(v[j].many-1)=((k+v[j].many.toNat:Nat):Int):=by omega
  exact⟨by omega,v[j],List.getElem?_eq_getElem hjl,by omega,by omega,by omega,c'',by omega,j+1,k+v[j].many.toNat,c'',rfl,hs',by omega,by rw[hk2];rfl⟩
 ·rw[if_pos trivial]
  have hk0:k=0:=by have:=of_decide_eq_false hk;omega
  subst hk0
  have:m=0:=by cases hd:v.drop j<;>rw[hd]at hs<;>simp[skip]at hs<;>exact hs.symm
  subst this
  congr 1;omega
def oL(v:Vl):Obj:=⟨46,6,v.map aM,true,0⟩
theorem tY(v:Vl):bg [oL v]:=by
 intro o ho x hx p hp
 simp only[List.mem_singleton]at ho
 subst ho
 simp only[oL,List.mem_map]at hx
 obtain⟨n,_,rfl⟩:=hx
 simp only[aM,PV.cells,List.mem_cons,List.not_mem_nil,or_false]at hp
 rcases hp with rfl | rfl | rfl | rfl | rfl | rfl<;>rfl
theorem NA(n:Nd):(aM n).cells.length=6∧(aM n).cells.all PV.storable=true:=⟨rfl,rfl⟩
theorem TT(d n:Nat)(objs:List Obj)(v:Vl):(v.map aM).map (PV.bI (fB d n objs))=v.map aM:=by
 rw[List.map_map]
 exact List.map_congr_left λx _=>rfl
theorem Q6:av Tryz.prog 109 [.sl 6 [] (some true)] [] (.aW 0 0) [oL []]:=by
 refine fJ.made (T:=bH Tryz.prog []) 0 hD (ax au) bM ?_
 (conv=>arg 4;cbv);simp only[↓JH,QY,↓MB,↓Gv,↓MC,Gw,↓vU,↓r_,Gy,Nt,Nat.reduceAdd,Nat.reduceSub,z_,Xn,dL,Sl,Pw,Dr,fE,forall_const,reduceCtorEq,false_imp_iff,and_true,TK.slice.injEq,exists_eq',true_and]
 exact⟨_,0,0,_,Weak.Gf 2 46 6 rfl,rfl,rfl,rfl,rfl,rfl,tY []⟩
theorem NC(v:Vl)(hv:v.length≤1099511627776):av Tryz.prog 109 [.sl 6 (v.map aM) (some false)] [] (.aW 0 0) [oL v]:=by
 refine fJ.made (T:=bH Tryz.prog []) 0 hD (ax au) bM ?_
 (conv=>arg 4;cbv);simp only[↓JH,QY,↓MB,↓Gv,↓MC,Gw,↓vU,↓r_,Gy,Nt,Nat.reduceAdd,Nat.reduceSub,z_,Xn,dL,Sl,Pw,Dr,fE,forall_const,reduceCtorEq,false_imp_iff,and_true,TK.slice.injEq,exists_eq',true_and]
 simp only[bB,dh,kX,newObj,gy,dL,ne_eq,reduceCtorEq,not_false_eq_true,true_and,if_true,List.all_nil,Nat.zero_mul,Nat.zero_le,List.nil_append,List.length_nil,List.getElem?_cons_zero,Option.some.injEq]
 refine⟨rfl,rfl,rfl,rfl,?_,_,rfl,rfl,rfl,rfl,rfl,?_,?_,λ_ _ h=>h.elim,_,0,2,_,Weak.refl _ _,rfl,rfl,rfl,rfl,?_,tY v⟩
 ·intro y hy
  obtain⟨n,_,rfl⟩:=List.mem_map.1 hy
  exact NA n
 ·simp;omega
 ·simp;omega
 ·simp only[eO,oL,List.replicate_zero,List.nil_append,TT]
theorem ND(v:Vl)(hv:v.length≤1099511627776):av Tryz.prog 109 [ak v] [] (.aW 0 0) [oL v]:=
 av.split (pre:=[]) (post:=[]) (λh=>by
  have:v=[]:=by simpa using h
  subst this
  exact Q6) (NC v hv)
end Lp
namespace Lp
open Go Go.Proofs
open List (length_cons length_nil)
def rowOf(p:Vl):List PV:=[.str (nameOf p),ak (gX p)]
def Ac:fu:=λargs objs K=>∃(v:Vl) (i c:Nat),args=[ak v,.int .i64 i]∧v.length≤4611686018427387904∧skip (v.drop i) 1=some c∧K (.int .i64 (i+c:Nat)) objs 0
def Dz:fu:=λargs objs K=>∃v:Vl,args=[ak v]∧v.length≤1099511627776∧K (.aW objs.length 0) (objs++[oL v]) 2
theorem IA:aQ Tryz.prog 108 Ac:=by
 rintro args objs K ⟨v,i,c,rfl,hv,hs,hk⟩
 exact⟨_,_,_,.pure _ rfl (KP v i c hv hs),hk⟩
theorem KQ:aQ Tryz.prog 109 Dz:=by
 rintro args objs K ⟨v,rfl,hv,hk⟩
 have h:=kJ.made (objs:=objs) _ _ rfl (tY v) (ND v hv)
 exact⟨_,_,_,h,by simpa[PV.shift,PV.jO] using hk⟩
theorem GA(v:Vl):av Tryz.prog 80 [ak v] [] (.fn 107 [] [.addr (ak v)]) []:=by
 refine Nu.pure (T:=bH Tryz.prog []) 1 hD (ax au) bM (by decide) ?_
 (conv=>arg 4;cbv);simp only[↓JH,QY,↓MB,↓Gv,↓MC,Gw,↓vU,↓r_,yG,ku,gK,Nat.reduceAdd,Nat.reduceSub,z_,dL,Hu,jg,newObj,ak,Ip,Iq,ne_eq,reduceCtorEq,not_false_eq_true,true_and,length_cons,length_nil,List.nil_append]
 exact⟨rfl,rfl,rfl⟩
theorem tZ(v:Vl)(n:Nd)(r:Vl)(ps:List Vl)(hv:v=n::r)(hl:v.length≤1099511627776)(hm:0≤n.many)(hp:parts n.many.toNat r=some ps) :
  Gives Tryz.prog 107 [.addr (ak v)] (ps.map rowOf):=by
 refine Ir.gives (fnT:=jR [(108,Ac),(109,Dz)]) hD (af IA (af KQ au)) bM ?_
 intro I J objs y hI g_ iE
 subst hv
 (conv=>arg 4;cbv);simp only[↓JH,Yq,↓MB,↓Gv,↓MC,Gw,↓vU,↓r_,Nat.reduceAdd,Nat.reduceSub,z_,dL,Sl,Pw,Dr,aZ,dK,aN,dD,↓Dt,↓KC,KD,tH,Ip,Iq,ak,aM,List.map_cons,Int.reduceToNat,Int.toNat_zero,Int.reduceLE,Bool.not_false,Bool.and_self,Nat.reduceLeDiff,forall_const,ne_eq,reduceCtorEq,not_false_eq_true,true_and,PV.bool.injEq,Int.toNat_natCast,Nat.zero_add,length_cons,length_nil]
 refine bA (λm S=>∃(k i:Nat) (O:List Obj) (rest:List Vl),k+rest.length=ps.length∧m=rest.length∧parts rest.length ((n::r).drop i)=some rest∧ps.drop k=rest∧I k O∧
  S=⟨mkT 34 [(0,.oF y),(1,.addr (ak (n::r))),(3,.int .i64 i),(9,.int .i64 n.many),(10,.int .i64 k)],O⟩) ps.length ?_ ?_
 ·have hpl:=dS _ _ _ hp
  refine⟨0,1,objs,ps,by omega,rfl,by rw[hpl];simpa using hp,by simp,hI,?_⟩
  simp only[Xn,ak,z_];rfl
 have hpl:=dS _ _ _ hp
 have aav:n.many.toNat≤1099511627776:=by have:=jB _ _ _ hp;simp at hl;omega
 generalize hv:n::r=v at *
 rintro m S ⟨k,i,O,rest,hk,rfl,hps,hd,hIk,rfl⟩
 simp only[↓JH,Yq,↓MB,↓Gv,↓MC,Gw,↓vU,↓r_,Nat.reduceAdd,Nat.reduceSub,z_,dL,Sl,Pw,Dr,caR,taR,Ac,Dz,Nat.reduceBEq,BEq.rfl,cond_true,cond_false,gu,bR,aZ,dK,aN,dD,↓Dt,↓KC,KD,tH,Ip,Iq,ak,List.map_cons,Int.reduceToNat,Int.toNat_zero,Int.reduceLE,Bool.not_false,Bool.and_self,Nat.reduceLeDiff,forall_const,ne_eq,reduceCtorEq,not_false_eq_true,true_and,PV.bool.injEq,Int.toNat_natCast,Nat.zero_add,length_cons,length_nil]
 refine⟨λhkm=>?_,λhkm=>?_⟩
 ·have ab0:(k:Int)<n.many:=of_decide_eq_true hkm
  obtain⟨q,hq⟩:∃q,rest.length=q+1:=⟨rest.length-1,by omega⟩
  rw[hq]at hps
  obtain⟨c,qs,hsk,hr',hqs⟩:=iL hps
  have hc:=iB _ _ _ hsk
  simp only[List.length_drop]at hc
  have hlv:v.length≤1099511627776:=hl
  refine⟨v,i,c,rfl,by omega,hsk,.inr trivial,by omega,by omega,by simp;omega,(v.drop i).take c,?_,by simp;omega,oL ((v.drop i).take c),by simp,rfl,rfl,by simp[oL];omega,rfl,oL ((v.drop i).take c),by simp,rfl,rfl,?_⟩
  ·rw[←List.map_take,←List.map_drop,←List.take_drop]
  ·obtain⟨hdn,tl,hpe⟩:∃a b,(v.drop i).take c=a::b:=by
     cases hx:(v.drop i).take c with
     | nil=>have:=congrArg List.length hx;simp at this;omega
     | cons a b=>exact⟨a,b,rfl⟩
   rw[hpe]at hr' ⊢
   refine⟨oL (hdn::tl),aM hdn,by simp,rfl,rfl,rfl,by simp,rfl,by simp[aM,PV.cells],(λh=>by cases h),rfl,?_⟩
   have hset:(O++[oL (hdn::tl)]).set O.length { oL (hdn::tl) with xs:=(oL (hdn::tl)).xs.set 0 ((aM hdn).putCells 2 (PV.str []).cells) }=O++[oL (gX (hdn::tl))]:=by
    rw[List.set_append_right _ _ (Nat.le_refl _),Nat.sub_self]
    rfl
   rw[hset]
   refine aY _ (Weak.freeze 1 O.length (g_ k O hIk).1 _) ?_
   have hgo:(O++[oL (gX (hdn::tl))])[O.length]?=some (oL (gX (hdn::tl))):=by simp
   have hfr:fB 1 O.length (O++[oL (gX (hdn::tl))]) (.aW O.length 0)=ak (gX (hdn::tl)):=by
    simp only[fB,Nat.lt_irrefl,if_false,kr,hgo]
    simp only[oL,Nat.le_refl,decide_true,Bool.and_self,BEq.rfl,if_true,ak,List.map_map]
    congr 1
   have hro:(O++[oL (gX (hdn::tl))]).take O.length=O:=by simp
   have hpost:∃w,w=gX (hdn::tl):=⟨_,rfl⟩
   obtain⟨pc,hpc⟩:=hpost
   rw[←hpc]at hfr hro hgo ⊢
   have hq1:(fB 1 O.length (O++[oL pc]) (.aT O.length 0 0 0)).pure=true:=wE (Nat.le_refl _)
   have hq2:(fB 1 O.length (O++[oL pc]) (.aT O.length 0 0 2)).pure=true:=wE (Nat.le_refl _)
   have hq3:(ak pc).pure=true:=rfl
   simp only[St.freeze,z_,Yw,Nt,hfr,hro,hq1,hq2,hq3,puR,JF,Bool.not_true,aM,Vt (g_ k O hIk).2,↓JH,Yq,↓MB,↓Gv,↓MC,Gw,↓vU,↓r_,Nat.reduceAdd,Nat.reduceSub,dL,Sl,Pw,Dr,caR,EI,aZ,dK,aN,dD,↓Dt,↓KC,KD,tH,Ip,Iq,Int.reduceToNat,Int.toNat_zero,Int.reduceLE,Bool.not_false,Bool.and_self,Nat.reduceLeDiff,forall_const,ne_eq,reduceCtorEq,not_false_eq_true,true_and,PV.bool.injEq,Int.toNat_natCast,Nat.zero_add,length_cons,length_nil]
   have hvi:v[i]?=some hdn:=by
    have:=congrArg (λl=>l[0]?) hpe
    simp only[List.getElem?_cons_zero,List.getElem?_take,List.getElem?_drop,Nat.add_zero]at this
    rw[if_pos (by omega)]at this
    exact this
   have hpk:ps[k]?=some (hdn::tl):=by
    have:=congrArg (λl=>l[0]?) (hd.trans hr')
    simpa using this
   have hdq:ps.drop (k+1)=qs:=by
    have:=congrArg List.tail (hd.trans hr')
    simpa[List.tail_drop] using this
   have hlq:qs.length=q:=by rw[hr']at hq;simpa using hq
   refine⟨by omega,hdn,hvi,k,hIk,?_,λai hI'=>⟨λh=>h.elim,⟨by omega,by omega⟩,qs.length,by omega,k+1,i+c,ai,qs,by omega,rfl,?_,hdq,hI',?_⟩,λai hJ'=>?_⟩
   ·rw[List.getElem?_map,hpk,hpc];rfl
   ·rw[hlq];rw[List.drop_drop]at hqs;exact hqs
   ·simp only[Xn,ak,z_];rfl
   ·exact⟨⟨.inr rfl,.inr ⟨k,by rw[List.length_map];omega,hJ'⟩⟩,λh=>h.elim⟩
 ·rw[if_pos trivial]
  have hge:¬ (k:Int)<n.many:=of_decide_eq_false hkm
  refine⟨.inl rfl,?_⟩
  have:k=ps.length:=by omega
  rw[List.length_map,←this]
  exact .inl hIk
end Lp
namespace Lp
open Go Go.Proofs
open List (length_cons length_nil mem_singleton nil_append)
def yR:fu:=λargs objs K=>∃v:Vl,args=[ak v]∧K (.fn 107 [] [.addr (ak v)]) objs 0
theorem DC:aQ Tryz.prog 80 yR:=by
 rintro args objs K ⟨v,rfl,hk⟩
 exact⟨_,_,_,.pure _ rfl (GA v),hk⟩
def Q7(done:List Vl)(O:List Obj):Prop:=
 (done=[]∧O=[⟨64,1,[.sl 0 [] (some true)],true,1⟩])∨
 (done≠[]∧∃ver,O=[⟨64,1,[.aW 1 ver],true,1⟩,⟨23,1,done.map λp=>ak (gX p),true,ver⟩])
theorem Bc(v:Vl)(n:Nd)(r:Vl)(ps:List Vl)(hv:v=n::r)(hl:v.length≤1099511627776)(hm:0≤n.many)(hp:parts n.many.toNat r=some ps) :
  av Tryz.prog 52 [ak v] [] (if ps=[] then .sl 0 [] (some true) else .sl 1 (ps.map λp=>ak (gX p)) none) []:=by
 refine Bb.pure (T:=bH Tryz.prog [(80,yR)]) 2 hD (ax (af DC au)) bM (by decide) ?_
 (conv=>arg 4;cbv);simp only[↓JH,QY,↓MB,↓Gv,↓MC,Gw,↓vU,↓r_,Nat.reduceAdd,Nat.reduceSub,z_,dL,caR,taR,yR,Nat.reduceBEq,BEq.rfl,cond_true,cond_false,pE,newObj,aG,Ip,Iq,ne_eq,reduceCtorEq,not_false_eq_true,true_and,length_cons,length_nil,nil_append]
 refine⟨rfl,v,rfl,?_⟩
 refine wW 107 [.addr (ak v)] (ps.map rowOf) (λi O=>Q7 (ps.take i) O∧i≤ps.length) rfl rfl rfl trivial (tZ v n r ps hv hl hm hp) ?_ ⟨.inl ⟨by simp,rfl⟩,Nat.zero_le _⟩ ?_ ?_ ?_
 ·intro y hy
  obtain⟨p,_,rfl⟩:=List.mem_map.1 hy
  rfl
 ·rintro i O ⟨h | ⟨_,ver,rfl⟩,_⟩
  ·rw[h.2]
   refine⟨by simp,?_⟩
   intro o ho x hx c hc
   simp only[mem_singleton]at ho
   subst ho
   simp only[mem_singleton]at hx
   subst hx
   simp only[PV.cells,mem_singleton]at hc
   subst hc
   rfl
  ·refine⟨by simp,?_⟩
   intro o ho x hx c hc
   simp only[List.mem_cons,List.not_mem_nil,or_false]at ho
   rcases ho with rfl | rfl
   ·simp only[mem_singleton]at hx
    subst hx
    simp only[PV.cells,mem_singleton]at hc
    subst hc
    rfl
   ·simp only[List.mem_map]at hx
    obtain⟨p,_,rfl⟩:=hx
    simp only[ak,PV.cells,mem_singleton]at hc
    subst hc
    rfl
 ·rintro i args O ⟨hO,hi⟩ ha
  rw[List.getElem?_map]at ha
  obtain⟨p,hpi,rfl⟩:∃p,ps[i]?=some p∧rowOf p=args:=by
   cases hx:ps[i]? with
   | none=>rw[hx]at ha;simp at ha
   | some p=>rw[hx]at ha;exact⟨p,rfl,by simpa using ha⟩
  have hil:i<ps.length:=(List.getElem?_eq_some_iff.1 hpi).1
  have htk:ps.take (i+1)=ps.take i++[p]:=by rw[List.take_add_one,hpi];rfl
  rcases hO with ⟨h0,rfl⟩ | ⟨h0,ver,rfl⟩
  ·simp only[rowOf,iI,TF,↓KC,↓Du,reduceIte,Bool.false_eq_true,if_false,↓JH,↓MB,↓Gv,↓MC,Gw,↓vU,↓r_,Nat.reduceAdd,Nat.reduceSub,z_,dL,fE,dK,bB,dh,kX,newObj,gy,iq,aG,KD,tH,Ip,Iq,ne_eq,reduceCtorEq,not_false_eq_true,true_and,length_cons,length_nil,nil_append]
   refine⟨by decide,λ_=>trivial,rfl,by decide,rfl,rfl,rfl,?_,by decide,by decide,by decide,λ_=>trivial,rfl,.inr ⟨by rw[htk];simp,1,?_⟩,by omega⟩
   ·intro y hy
    simp only[mem_singleton]at hy
    subst hy
    exact⟨rfl,rfl⟩
   ·rw[htk,h0];rfl
  ·have hlen:ps.length≤1099511627776:=by
     have h1:=dS _ _ _ hp
     have h2:=jB _ _ _ hp
     rw[hv]at hl
     simp at hl
     omega
   simp only[rowOf,iI,TF,↓KC,↓Du,reduceIte,Bool.false_eq_true,if_false,↓JH,↓MB,↓Gv,↓MC,Gw,↓vU,↓r_,Nat.reduceAdd,Nat.reduceSub,z_,dL,fE,dK,bB,dh,kX,newObj,gy,iq,aG,KD,tH,Ip,Iq,ne_eq,reduceCtorEq,not_false_eq_true,true_and,length_cons,length_nil,nil_append]
   refine⟨by decide,λ_=>trivial,rfl,by decide,rfl,rfl,rfl,?_,by simp;omega,by simp;omega,λ_ _ h=>h.elim,by decide,λ_=>trivial,rfl,.inr ⟨by rw[htk];simp,ver+1,?_⟩,by omega⟩
   ·intro y hy
    simp only[mem_singleton]at hy
    subst hy
    exact⟨rfl,rfl⟩
   ·rw[htk,List.map_append];rfl
 ·rintro O ⟨hO,_⟩
  rw[List.length_map,List.take_length]at hO
  rcases hO with ⟨h0,rfl⟩ | ⟨h0,ver,rfl⟩
  ·rw[if_pos h0]
   simp only[TF,↓KC,↓Du,reduceIte,↓Gv,Gw,z_,dK,KD,tH,Ip,Iq,yG,ku,gK,Nt,Yw,ne_eq,reduceCtorEq,not_false_eq_true,true_and,length_cons,length_nil,nil_append]
   exact⟨by decide,λ_=>trivial,rfl,trivial⟩
  ·rw[if_neg h0]
   simp only[TF,↓KC,↓Du,reduceIte,↓Gv,Gw,z_,dK,KD,tH,Ip,Iq,yG,ku,gK,Nt,Yw,ne_eq,reduceCtorEq,not_false_eq_true,true_and,length_cons,length_nil,nil_append]
   refine⟨by decide,λ_=>trivial,rfl,?_⟩
   simp only[fB,Nat.not_lt_zero,if_false,kr,List.getElem?_cons_succ,List.getElem?_cons_zero,Nat.le_refl,Nat.zero_le,decide_true,Bool.and_self,BEq.rfl,if_true,List.map_map]
   congr 1
theorem NE(v:Vl)(n:Nd)(r:Vl)(ps:List Vl)(hv:v=n::r)(hl:v.length≤1099511627776)(hm:0≤n.many)(hp:parts n.many.toNat r=some ps) :
  av Tryz.prog 52 [ak v] [] (.sl 1 (ps.map λp=>ak (gX p)) none) []:=by
 refine (Bc v n r ps hv hl hm hp).TA λw ok u h=>?_
 split at h
 ·rename_i h0
  subst h0
  exact Im h (by simp)
 ·exact h
end Lp
namespace Lp
open Go Go.Proofs
open List (length_cons length_nil map_map mem_singleton nil_append)
def Q8(done:List Vl)(O:List Obj):Prop:=
 (done=[]∧O=[⟨75,1,[.sl 0 [] (some true)],true,1⟩])∨
 (done≠[]∧∃ver,O=[⟨75,1,[.aW 1 ver],true,1⟩,⟨9,1,done.map λp=>.str (nameOf p),true,ver⟩])
theorem Bd(v:Vl)(n:Nd)(r:Vl)(ps:List Vl)(hv:v=n::r)(hl:v.length≤1099511627776)(hm:0≤n.many)(hp:parts n.many.toNat r=some ps) :
  av Tryz.prog 76 [ak v] [] (if n.kind=6∧ps≠[] then .sl 1 (ps.map λp=>.str (nameOf p)) none else .sl 0 [] (some true)) []:=by
 subst hv
 refine Ba.pure (T:=bH Tryz.prog [(80,yR)]) 2 hD (ax (af DC au)) bM (by decide) ?_
 (conv=>arg 4;cbv);simp only[↓JH,QY,↓MB,↓Gv,↓MC,Gw,↓vU,↓r_,Nat.reduceAdd,Nat.reduceSub,z_,dL,caR,taR,yR,Nat.reduceBEq,BEq.rfl,cond_true,cond_false,pE,newObj,aG,↓Dt,↓KC,aZ,dK,aN,dD,ak,aM,Sl,Pw,KD,tH,List.map_cons,Int.reduceToNat,Int.toNat_zero,Int.reduceLE,Nat.reduceLeDiff,forall_const,Bool.not_false,Bool.and_self,↓Du,TF,yG,ku,gK,Nt,Ip,Iq,ne_eq,reduceCtorEq,not_false_eq_true,true_and,length_cons,length_nil,nil_append]
 refine⟨rfl,λhk=>⟨n::r,rfl,?_⟩,λhk=>?_⟩
 ·have NF:n.kind=6:=of_decide_eq_true hk
  refine wW 107 [.addr (ak (n::r))] (ps.map rowOf) (λi O=>Q8 (ps.take i) O∧i≤ps.length) rfl rfl rfl trivial (tZ (n::r) n r ps rfl hl hm hp) ?_ ⟨.inl ⟨by simp,rfl⟩,Nat.zero_le _⟩ ?_ ?_ ?_
  ·intro y hy
   obtain⟨p,_,rfl⟩:=List.mem_map.1 hy
   rfl
  ·rintro i O ⟨h | ⟨_,ver,rfl⟩,_⟩
   ·rw[h.2]
    refine⟨by simp,?_⟩
    intro o ho x hx c hc
    simp only[mem_singleton]at ho
    subst ho
    simp only[mem_singleton]at hx
    subst hx
    simp only[PV.cells,mem_singleton]at hc
    subst hc
    rfl
   ·refine⟨by simp,?_⟩
    intro o ho x hx c hc
    simp only[List.mem_cons,List.not_mem_nil,or_false]at ho
    rcases ho with rfl | rfl
    ·simp only[mem_singleton]at hx
     subst hx
     simp only[PV.cells,mem_singleton]at hc
     subst hc
     rfl
    ·simp only[List.mem_map]at hx
     obtain⟨p,_,rfl⟩:=hx
     simp only[PV.cells,mem_singleton]at hc
     subst hc
     rfl
  ·rintro i args O ⟨hO,hi⟩ ha
   rw[List.getElem?_map]at ha
   obtain⟨p,hpi,rfl⟩:∃p,ps[i]?=some p∧rowOf p=args:=by
    cases hx:ps[i]? with
    | none=>rw[hx]at ha;simp at ha
    | some p=>rw[hx]at ha;exact⟨p,rfl,by simpa using ha⟩
   have hil:i<ps.length:=(List.getElem?_eq_some_iff.1 hpi).1
   have htk:ps.take (i+1)=ps.take i++[p]:=by rw[List.take_add_one,hpi];rfl
   rcases hO with ⟨h0,rfl⟩ | ⟨h0,ver,rfl⟩
   ·simp only[rowOf,iI,TF,↓KC,↓Du,reduceIte,Bool.false_eq_true,if_false,↓JH,↓MB,↓Gv,↓MC,Gw,↓vU,↓r_,Nat.reduceAdd,Nat.reduceSub,z_,dL,fE,dK,bB,dh,kX,newObj,gy,iq,aG,KD,tH,Ip,Iq,ne_eq,reduceCtorEq,not_false_eq_true,true_and,length_cons,length_nil,nil_append]
    refine⟨by decide,λ_=>trivial,rfl,by decide,rfl,rfl,rfl,?_,by decide,by decide,by decide,λ_=>trivial,rfl,.inr ⟨by rw[htk];simp,1,?_⟩,by omega⟩
    ·intro y hy
     simp only[mem_singleton]at hy
     subst hy
     exact⟨rfl,rfl⟩
    ·rw[htk,h0];rfl
   ·have hlen:ps.length≤1099511627776:=by
      have h1:=dS _ _ _ hp
      have h2:=jB _ _ _ hp
      simp at hl
      omega
    simp only[rowOf,iI,TF,↓KC,↓Du,reduceIte,Bool.false_eq_true,if_false,↓JH,↓MB,↓Gv,↓MC,Gw,↓vU,↓r_,Nat.reduceAdd,Nat.reduceSub,z_,dL,fE,dK,bB,dh,kX,newObj,gy,iq,aG,KD,tH,Ip,Iq,ne_eq,reduceCtorEq,not_false_eq_true,true_and,length_cons,length_nil,nil_append]
    refine⟨by decide,λ_=>trivial,rfl,by decide,rfl,rfl,rfl,?_,by simp;omega,by simp;omega,λ_ _ h=>h.elim,by decide,λ_=>trivial,rfl,.inr ⟨by rw[htk];simp,ver+1,?_⟩,by omega⟩
    ·intro y hy
     simp only[mem_singleton]at hy
     subst hy
     exact⟨rfl,rfl⟩
    ·rw[htk,List.map_append];rfl
  ·rintro O ⟨hO,_⟩
   rw[List.length_map,List.take_length]at hO
   rcases hO with ⟨h0,rfl⟩ | ⟨h0,ver,rfl⟩
   ·rw[if_neg (λh=>h.2 h0)]
    simp only[TF,↓KC,↓Du,reduceIte,↓Gv,Gw,z_,dK,KD,tH,Ip,Iq,yG,ku,gK,Nt,Yw,ne_eq,reduceCtorEq,not_false_eq_true,true_and,length_cons,length_nil,nil_append]
    simp
   ·rw[if_pos ⟨NF,h0⟩]
    simp only[TF,↓KC,↓Du,reduceIte,↓Gv,Gw,z_,dK,KD,tH,Ip,Iq,yG,ku,gK,Nt,Yw,ne_eq,reduceCtorEq,not_false_eq_true,true_and,length_cons,length_nil,nil_append]
    refine⟨by decide,rfl,?_⟩
    simp only[fB,Nat.not_lt_zero,if_false,kr,List.getElem?_cons_succ,List.getElem?_cons_zero,Nat.le_refl,Nat.zero_le,decide_true,Bool.and_self,BEq.rfl,if_true,map_map]
    congr 1
 ·have NF:n.kind≠6:=of_decide_eq_false hk
  rw[if_neg (λh=>NF h.1)]
theorem NG(v:Vl)(n:Nd)(r:Vl)(ps:List Vl)(hv:v=n::r)(hl:v.length≤1099511627776)(hm:0≤n.many)(hp:parts n.many.toNat r=some ps) :
  av Tryz.prog 76 [ak v] [] (.sl 1 ((Hl n ps).map .str) none) []:=by
 refine (Bd v n r ps hv hl hm hp).TA λw ok u h=>?_
 unfold Hl
 by_cases hk:n.kind=6
 ·rw[if_pos hk]
  by_cases h0:ps=[]
  ·subst h0
   rw[if_neg (λh=>h.2 rfl)]at h
   exact Im h (by simp)
  ·rw[if_pos ⟨hk,h0⟩]at h
   rw[map_map]
   exact h
 ·rw[if_neg hk]
  rw[if_neg (λh=>hk h.1)]at h
  exact Im h (by simp)
end Lp
namespace Lp
open Go Go.Proofs
theorem oo(x:Nd):fB 1 0 [⟨46,6,[aM x],true,1⟩] (.aT 0 1 0 0)=.addr (aM x):=rfl
theorem tf(p:Prop):p=True∨p=False:=by
 by_cases h:p
 ·exact .inl (eq_true h)
 ·exact .inr (eq_false h)
end Lp
namespace Lp
open Go Go.Proofs
open Bool (false_eq_true)
theorem gL(c:UInt8)(n:Nat)(h:n<256):(c<UInt8.ofNat n↔c.toNat<n)∧(UInt8.ofNat n≤c↔n≤c.toNat):=by
 have e:(UInt8.ofNat n).toNat=n:=by simp[UInt8.toNat_ofNat'];omega
 constructor
 ·rw[UInt8.lt_iff_toNat_lt,e]
 ·rw[UInt8.le_iff_toNat_le,e]
theorem NH{s:List UInt8}{i:Nat}{c:UInt8}(h:s[i]?=some c):eT s i=(decide (128≤c.toNat) && decide (c.toNat<192)):=by
 have h1:128≤c↔128≤c.toNat:=(gL c 128 (by omega)).2
 have h2:c<192↔c.toNat<192:=(gL c 192 (by omega)).1
 simp only[eT,h]
 rw[decide_eq_decide.2 h1,decide_eq_decide.2 h2]
theorem Q9(s:List UInt8)(i:Int)(hi:0≤i):av Tryz.prog 86 [.str s,.int .i64 i] [] (.bool (eT s i.toNat)) []:=by
 refine yM.pure (T:=bH Tryz.prog []) 0 hD (ax au) bM (by decide) ?_
 rcases Nat.lt_or_ge i.toNat s.length with h | h
 ·have hg:=List.getElem?_eq_getElem h
  generalize s[i.toNat]=c at hg
  (conv=>arg 4;cbv);simp (maxSteps:=400000) only[↓aI,aJ,BEq.rfl,seval,hg,NH hg]
  refine⟨λ_=>⟨hi,λh1=>⟨hi,?_⟩,λh1=>?_⟩,λh2=>absurd (by omega) h2⟩
  ·have:128≤c.toNat:=by omega
   simp only[this,decide_true,Bool.true_and]
   exact decide_eq_decide.2 (by omega)
  ·have:¬ 128≤c.toNat:=by omega
   simp only[this,decide_false,Bool.false_and]
 ·have hn:s[i.toNat]?=none:=List.getElem?_eq_none h
  (conv=>arg 4;cbv);simp (maxSteps:=400000) only[↓aI,aJ,BEq.rfl,seval]
  simp only[eT,hn]
  exact⟨λhh=>absurd hh (by omega),λ_=>trivial⟩
def dA:fu:=λargs objs K=>match args with
 | [.str s,.int .i64 i]=>(0≤i)∧K (.bool (eT s i.toNat)) objs 0
 | _=>False
theorem NI:aQ Tryz.prog 86 (dA):=by
 intro args objs K h
 unfold dA at h
 split at h
 ·rename_i s i
  obtain⟨h1,hk⟩:=h
  exact⟨_,_,_,.pure _ rfl (Q9 s i h1),hk⟩
 ·exact h.elim
theorem xg(s:List UInt8)(i k:Nat):eT (s.drop i) k=eT s (i+k):=by
 simp only[eT,List.getElem?_drop]
theorem Ad{s:List UInt8}{i:Nat}(h:eT s i=true):∃d,s[i]?=some d:=by
 unfold eT at h
 split at h
 ·rename_i b hb;exact⟨b,hb⟩
 ·cases h
theorem Q_(s:List UInt8)(i:Nat)(hi:i<s.length)(hl:s.length≤4611686018427387904):av Tryz.prog 61 [.str s,.int .i64 i] [] (.int .i64 (bU (s.drop i):Nat)) []:=by
 have hg:=List.getElem?_eq_getElem hi
 have hd:=List.drop_eq_getElem_cons hi
 generalize s[i]=c at hg hd
 have c0:eT (s.drop (i+1)) 0=eT s (i+1):=xg s (i+1) 0
 have c1:eT (s.drop (i+1)) 1=eT s (i+2):=xg s (i+1) 1
 have c2:eT (s.drop (i+1)) 2=eT s (i+3):=xg s (i+1) 2
 have n1:((i:Int)+1).toNat=i+1:=by omega
 have n2:((i:Int)+2).toNat=i+2:=by omega
 have n3:((i:Int)+3).toNat=i+3:=by omega
 have z0:(0≤(i:Int))=True:=eq_true (by omega)
 have z1:(0≤(i:Int)+1)=True:=eq_true (by omega)
 have z2:(0≤(i:Int)+2)=True:=eq_true (by omega)
 have z3:(0≤(i:Int)+3)=True:=eq_true (by omega)
 have i1:(-9223372036854775808≤(i:Int)+1∧(i:Int)+1≤9223372036854775807)=True:=eq_true ⟨by omega,by omega⟩
 have i2:(-9223372036854775808≤(i:Int)+2∧(i:Int)+2≤9223372036854775807)=True:=eq_true ⟨by omega,by omega⟩
 have i3:(-9223372036854775808≤(i:Int)+3∧(i:Int)+3≤9223372036854775807)=True:=eq_true ⟨by omega,by omega⟩
 suffices gen:∀Q:Exit→St→Prop,(∀(l:List (Nat×PV)) (v:Nat),qQ l 4=.int .i64 v→v=bU (c::s.drop (i+1))→Q .ret ⟨dR 109 l,[]⟩)→
   gY Tryz.prog D (bH Tryz.prog [(86,dA)]) o5 Q (aU [.str s,.int .i64 i] 109) by
  rw[hd]
  refine yK.pure (T:=bH Tryz.prog [(86,dA)]) 0 hD (ax (af NI au)) bM (by decide) ?_
  refine gen _ λl v h1 h2=>?_
  subst h2
  simp only[yG,ku,gK,Yz,tL,Nat.reduceLT,h1,List.map_cons,List.map_nil,Nt]
 intro Q hQ
 have hc:c.toNat<256:=c.toNat_lt
 have h6:c.toNat<128∨(128≤c.toNat∧c.toNat<194)∨(194≤c.toNat∧c.toNat<224)∨(224≤c.toNat∧c.toNat<240)∨(240≤c.toNat∧c.toNat<245)∨245≤c.toNat:=by omega
 rcases h6 with h | h | h | h | h | h
 ·skip
  have f0:(((c.toNat:Int)<128)=True):=eq_true (by omega)
  have f1:((128≤(c.toNat:Int))=False):=eq_false (by omega)
  have f2:((c<128)=True):=eq_true ((gL c 128 (by omega)).1.2 (by omega))
  have f3:((128≤c)=False):=eq_false λhh=>by have:=(gL c 128 (by omega)).2.1 hh;omega
  have f4:(((c.toNat:Int)<194)=True):=eq_true (by omega)
  have f5:((194≤(c.toNat:Int))=False):=eq_false (by omega)
  have f6:((c<194)=True):=eq_true ((gL c 194 (by omega)).1.2 (by omega))
  have f7:((194≤c)=False):=eq_false λhh=>by have:=(gL c 194 (by omega)).2.1 hh;omega
  have f8:(((c.toNat:Int)<224)=True):=eq_true (by omega)
  have f9:((224≤(c.toNat:Int))=False):=eq_false (by omega)
  have f10:((c<224)=True):=eq_true ((gL c 224 (by omega)).1.2 (by omega))
  have f11:((224≤c)=False):=eq_false λhh=>by have:=(gL c 224 (by omega)).2.1 hh;omega
  have f12:(((c.toNat:Int)<240)=True):=eq_true (by omega)
  have f13:((240≤(c.toNat:Int))=False):=eq_false (by omega)
  have f14:((c<240)=True):=eq_true ((gL c 240 (by omega)).1.2 (by omega))
  have f15:((240≤c)=False):=eq_false λhh=>by have:=(gL c 240 (by omega)).2.1 hh;omega
  have f16:(((c.toNat:Int)<245)=True):=eq_true (by omega)
  have f17:((245≤(c.toNat:Int))=False):=eq_false (by omega)
  have f18:((c<245)=True):=eq_true ((gL c 245 (by omega)).1.2 (by omega))
  have f19:((245≤c)=False):=eq_false λhh=>by have:=(gL c 245 (by omega)).2.1 hh;omega
  (conv=>arg 4;cbv);simp (maxSteps:=400000) only[↓aI,aJ,BEq.rfl,seval,hg,↓dA,n1,n2,n3,z0,z1,z2,z3,i1,i2,i3,f0,f1,f2,f3,f4,f5,f6,f7,f8,f9,f10,f11,f12,f13,f14,f15,f16,f17,f18,f19]
  exact hQ _ 1 rfl (by simp only[true_or,or_true,or_self,or_false,false_or,and_self,true_and,and_true,false_and,and_false,if_true,if_false,false_eq_true,c0,c1,c2,bU,f0,f1,f2,f3,f4,f5,f6,f7,f8,f9,f10,f11,f12,f13,f14,f15,f16,f17,f18,f19])
 ·skip
  have f0:(((c.toNat:Int)<128)=False):=eq_false (by omega)
  have f1:((128≤(c.toNat:Int))=True):=eq_true (by omega)
  have f2:((c<128)=False):=eq_false λhh=>by have:=(gL c 128 (by omega)).1.1 hh;omega
  have f3:((128≤c)=True):=eq_true ((gL c 128 (by omega)).2.2 (by omega))
  have f4:(((c.toNat:Int)<194)=True):=eq_true (by omega)
  have f5:((194≤(c.toNat:Int))=False):=eq_false (by omega)
  have f6:((c<194)=True):=eq_true ((gL c 194 (by omega)).1.2 (by omega))
  have f7:((194≤c)=False):=eq_false λhh=>by have:=(gL c 194 (by omega)).2.1 hh;omega
  have f8:(((c.toNat:Int)<224)=True):=eq_true (by omega)
  have f9:((224≤(c.toNat:Int))=False):=eq_false (by omega)
  have f10:((c<224)=True):=eq_true ((gL c 224 (by omega)).1.2 (by omega))
  have f11:((224≤c)=False):=eq_false λhh=>by have:=(gL c 224 (by omega)).2.1 hh;omega
  have f12:(((c.toNat:Int)<240)=True):=eq_true (by omega)
  have f13:((240≤(c.toNat:Int))=False):=eq_false (by omega)
  have f14:((c<240)=True):=eq_true ((gL c 240 (by omega)).1.2 (by omega))
  have f15:((240≤c)=False):=eq_false λhh=>by have:=(gL c 240 (by omega)).2.1 hh;omega
  have f16:(((c.toNat:Int)<245)=True):=eq_true (by omega)
  have f17:((245≤(c.toNat:Int))=False):=eq_false (by omega)
  have f18:((c<245)=True):=eq_true ((gL c 245 (by omega)).1.2 (by omega))
  have f19:((245≤c)=False):=eq_false λhh=>by have:=(gL c 245 (by omega)).2.1 hh;omega
  (conv=>arg 4;cbv);simp (maxSteps:=400000) only[↓aI,aJ,BEq.rfl,seval,hg,↓dA,n1,n2,n3,z0,z1,z2,z3,i1,i2,i3,f0,f1,f2,f3,f4,f5,f6,f7,f8,f9,f10,f11,f12,f13,f14,f15,f16,f17,f18,f19]
  exact hQ _ 0 rfl (by simp only[true_or,or_true,or_self,or_false,false_or,and_self,true_and,and_true,false_and,and_false,if_true,if_false,false_eq_true,c0,c1,c2,bU,f0,f1,f2,f3,f4,f5,f6,f7,f8,f9,f10,f11,f12,f13,f14,f15,f16,f17,f18,f19])
 ·skip
  have f0:(((c.toNat:Int)<128)=False):=eq_false (by omega)
  have f1:((128≤(c.toNat:Int))=True):=eq_true (by omega)
  have f2:((c<128)=False):=eq_false λhh=>by have:=(gL c 128 (by omega)).1.1 hh;omega
  have f3:((128≤c)=True):=eq_true ((gL c 128 (by omega)).2.2 (by omega))
  have f4:(((c.toNat:Int)<194)=False):=eq_false (by omega)
  have f5:((194≤(c.toNat:Int))=True):=eq_true (by omega)
  have f6:((c<194)=False):=eq_false λhh=>by have:=(gL c 194 (by omega)).1.1 hh;omega
  have f7:((194≤c)=True):=eq_true ((gL c 194 (by omega)).2.2 (by omega))
  have f8:(((c.toNat:Int)<224)=True):=eq_true (by omega)
  have f9:((224≤(c.toNat:Int))=False):=eq_false (by omega)
  have f10:((c<224)=True):=eq_true ((gL c 224 (by omega)).1.2 (by omega))
  have f11:((224≤c)=False):=eq_false λhh=>by have:=(gL c 224 (by omega)).2.1 hh;omega
  have f12:(((c.toNat:Int)<240)=True):=eq_true (by omega)
  have f13:((240≤(c.toNat:Int))=False):=eq_false (by omega)
  have f14:((c<240)=True):=eq_true ((gL c 240 (by omega)).1.2 (by omega))
  have f15:((240≤c)=False):=eq_false λhh=>by have:=(gL c 240 (by omega)).2.1 hh;omega
  have f16:(((c.toNat:Int)<245)=True):=eq_true (by omega)
  have f17:((245≤(c.toNat:Int))=False):=eq_false (by omega)
  have f18:((c<245)=True):=eq_true ((gL c 245 (by omega)).1.2 (by omega))
  have f19:((245≤c)=False):=eq_false λhh=>by have:=(gL c 245 (by omega)).2.1 hh;omega
  cases k1:eT s (i+1)
  ·skip
   (conv=>arg 4;cbv);simp (maxSteps:=400000) only[↓aI,aJ,BEq.rfl,seval,hg,↓dA,n1,n2,n3,z0,z1,z2,z3,i1,i2,i3,f0,f1,f2,f3,f4,f5,f6,f7,f8,f9,f10,f11,f12,f13,f14,f15,f16,f17,f18,f19,k1]
   exact hQ _ 0 rfl (by simp only[true_or,or_true,or_self,or_false,false_or,and_self,true_and,and_true,false_and,and_false,if_true,if_false,false_eq_true,c0,c1,c2,bU,f0,f1,f2,f3,f4,f5,f6,f7,f8,f9,f10,f11,f12,f13,f14,f15,f16,f17,f18,f19,k1])
  ·skip
   (conv=>arg 4;cbv);simp (maxSteps:=400000) only[↓aI,aJ,BEq.rfl,seval,hg,↓dA,n1,n2,n3,z0,z1,z2,z3,i1,i2,i3,f0,f1,f2,f3,f4,f5,f6,f7,f8,f9,f10,f11,f12,f13,f14,f15,f16,f17,f18,f19,k1]
   exact hQ _ 2 rfl (by simp only[true_or,or_true,or_self,or_false,false_or,and_self,true_and,and_true,false_and,and_false,if_true,if_false,false_eq_true,c0,c1,c2,bU,f0,f1,f2,f3,f4,f5,f6,f7,f8,f9,f10,f11,f12,f13,f14,f15,f16,f17,f18,f19,k1])
 ·skip
  have f0:(((c.toNat:Int)<128)=False):=eq_false (by omega)
  have f1:((128≤(c.toNat:Int))=True):=eq_true (by omega)
  have f2:((c<128)=False):=eq_false λhh=>by have:=(gL c 128 (by omega)).1.1 hh;omega
  have f3:((128≤c)=True):=eq_true ((gL c 128 (by omega)).2.2 (by omega))
  have f4:(((c.toNat:Int)<194)=False):=eq_false (by omega)
  have f5:((194≤(c.toNat:Int))=True):=eq_true (by omega)
  have f6:((c<194)=False):=eq_false λhh=>by have:=(gL c 194 (by omega)).1.1 hh;omega
  have f7:((194≤c)=True):=eq_true ((gL c 194 (by omega)).2.2 (by omega))
  have f8:(((c.toNat:Int)<224)=False):=eq_false (by omega)
  have f9:((224≤(c.toNat:Int))=True):=eq_true (by omega)
  have f10:((c<224)=False):=eq_false λhh=>by have:=(gL c 224 (by omega)).1.1 hh;omega
  have f11:((224≤c)=True):=eq_true ((gL c 224 (by omega)).2.2 (by omega))
  have f12:(((c.toNat:Int)<240)=True):=eq_true (by omega)
  have f13:((240≤(c.toNat:Int))=False):=eq_false (by omega)
  have f14:((c<240)=True):=eq_true ((gL c 240 (by omega)).1.2 (by omega))
  have f15:((240≤c)=False):=eq_false λhh=>by have:=(gL c 240 (by omega)).2.1 hh;omega
  have f16:(((c.toNat:Int)<245)=True):=eq_true (by omega)
  have f17:((245≤(c.toNat:Int))=False):=eq_false (by omega)
  have f18:((c<245)=True):=eq_true ((gL c 245 (by omega)).1.2 (by omega))
  have f19:((245≤c)=False):=eq_false λhh=>by have:=(gL c 245 (by omega)).2.1 hh;omega
  cases k1:eT s (i+1)
  ·skip
   (conv=>arg 4;cbv);simp (maxSteps:=400000) only[↓aI,aJ,BEq.rfl,seval,hg,↓dA,n1,n2,n3,z0,z1,z2,z3,i1,i2,i3,f0,f1,f2,f3,f4,f5,f6,f7,f8,f9,f10,f11,f12,f13,f14,f15,f16,f17,f18,f19,k1]
   exact hQ _ 0 rfl (by simp only[true_or,or_true,or_self,or_false,false_or,and_self,true_and,and_true,false_and,and_false,if_true,if_false,false_eq_true,c0,c1,c2,bU,f0,f1,f2,f3,f4,f5,f6,f7,f8,f9,f10,f11,f12,f13,f14,f15,f16,f17,f18,f19,k1])
  cases k2:eT s (i+2)
  ·skip
   (conv=>arg 4;cbv);simp (maxSteps:=400000) only[↓aI,aJ,BEq.rfl,seval,hg,↓dA,n1,n2,n3,z0,z1,z2,z3,i1,i2,i3,f0,f1,f2,f3,f4,f5,f6,f7,f8,f9,f10,f11,f12,f13,f14,f15,f16,f17,f18,f19,k1,k2]
   exact hQ _ 0 rfl (by simp only[true_or,or_true,or_self,or_false,false_or,and_self,true_and,and_true,false_and,and_false,if_true,if_false,false_eq_true,c0,c1,c2,bU,f0,f1,f2,f3,f4,f5,f6,f7,f8,f9,f10,f11,f12,f13,f14,f15,f16,f17,f18,f19,k1,k2])
  obtain⟨d,hd1⟩:=Ad k1
  have hhd:(List.drop (i+1) s).headD 0=d:=by rw[List.headD_eq_head?_getD,List.head?_drop,hd1];rfl
  by_cases hc224:c.toNat=224
  ·have Pz:c.toNat≠237:=by omega
   have e0:(((c.toNat:Int)=224)=True):=eq_true (by omega)
   have e1:((c=224)=True):=eq_true (UInt8.toNat_inj.1 (by simpa using hc224))
   have e2:(((c.toNat:Int)=237)=False):=eq_false (by omega)
   have e3:((c=237)=False):=eq_false λhh=>Pz (by rw[hh];rfl)
   by_cases hdl:d.toNat<160
   ·skip
    have g0:(((d.toNat:Int)<160)=True):=eq_true (by omega)
    have g1:((160≤(d.toNat:Int))=False):=eq_false (by omega)
    have g2:((d<160)=True):=eq_true ((gL d 160 (by omega)).1.2 (by omega))
    have g3:((160≤d)=False):=eq_false λhh=>by have:=(gL d 160 (by omega)).2.1 hh;omega
    (conv=>arg 4;cbv);simp (maxSteps:=400000) only[↓aI,aJ,BEq.rfl,seval,hg,↓dA,n1,n2,n3,z0,z1,z2,z3,i1,i2,i3,f0,f1,f2,f3,f4,f5,f6,f7,f8,f9,f10,f11,f12,f13,f14,f15,f16,f17,f18,f19,k1,k2,hd1,hhd,e0,e1,e2,e3,g0,g1,g2,g3]
    exact hQ _ 0 rfl (by simp only[true_or,or_true,or_self,or_false,false_or,and_self,true_and,and_true,false_and,and_false,if_true,if_false,false_eq_true,c0,c1,c2,bU,f0,f1,f2,f3,f4,f5,f6,f7,f8,f9,f10,f11,f12,f13,f14,f15,f16,f17,f18,f19,k1,k2,hd1,hhd,e0,e1,e2,e3,g0,g1,g2,g3])
   ·skip
    have g0:(((d.toNat:Int)<160)=False):=eq_false (by omega)
    have g1:((160≤(d.toNat:Int))=True):=eq_true (by omega)
    have g2:((d<160)=False):=eq_false λhh=>by have:=(gL d 160 (by omega)).1.1 hh;omega
    have g3:((160≤d)=True):=eq_true ((gL d 160 (by omega)).2.2 (by omega))
    (conv=>arg 4;cbv);simp (maxSteps:=400000) only[↓aI,aJ,BEq.rfl,seval,hg,↓dA,n1,n2,n3,z0,z1,z2,z3,i1,i2,i3,f0,f1,f2,f3,f4,f5,f6,f7,f8,f9,f10,f11,f12,f13,f14,f15,f16,f17,f18,f19,k1,k2,hd1,hhd,e0,e1,e2,e3,g0,g1,g2,g3]
    exact hQ _ 3 rfl (by simp only[true_or,or_true,or_self,or_false,false_or,and_self,true_and,and_true,false_and,and_false,if_true,if_false,false_eq_true,c0,c1,c2,bU,f0,f1,f2,f3,f4,f5,f6,f7,f8,f9,f10,f11,f12,f13,f14,f15,f16,f17,f18,f19,k1,k2,hd1,hhd,e0,e1,e2,e3,g0,g1,g2,g3])
  ·by_cases Pz:c.toNat=237
   ·skip
    have e0:(((c.toNat:Int)=224)=False):=eq_false (by omega)
    have e1:((c=224)=False):=eq_false λhh=>hc224 (by rw[hh];rfl)
    have e2:(((c.toNat:Int)=237)=True):=eq_true (by omega)
    have e3:((c=237)=True):=eq_true (UInt8.toNat_inj.1 (by simpa using Pz))
    by_cases hdl:d.toNat<160
    ·skip
     have g0:(((d.toNat:Int)<160)=True):=eq_true (by omega)
     have g1:((160≤(d.toNat:Int))=False):=eq_false (by omega)
     have g2:((d<160)=True):=eq_true ((gL d 160 (by omega)).1.2 (by omega))
     have g3:((160≤d)=False):=eq_false λhh=>by have:=(gL d 160 (by omega)).2.1 hh;omega
     (conv=>arg 4;cbv);simp (maxSteps:=400000) only[↓aI,aJ,BEq.rfl,seval,hg,↓dA,n1,n2,n3,z0,z1,z2,z3,i1,i2,i3,f0,f1,f2,f3,f4,f5,f6,f7,f8,f9,f10,f11,f12,f13,f14,f15,f16,f17,f18,f19,k1,k2,hd1,hhd,e0,e1,e2,e3,g0,g1,g2,g3]
     exact hQ _ 3 rfl (by simp only[true_or,or_true,or_self,or_false,false_or,and_self,true_and,and_true,false_and,and_false,if_true,if_false,false_eq_true,c0,c1,c2,bU,f0,f1,f2,f3,f4,f5,f6,f7,f8,f9,f10,f11,f12,f13,f14,f15,f16,f17,f18,f19,k1,k2,hd1,hhd,e0,e1,e2,e3,g0,g1,g2,g3])
    ·skip
     have g0:(((d.toNat:Int)<160)=False):=eq_false (by omega)
     have g1:((160≤(d.toNat:Int))=True):=eq_true (by omega)
     have g2:((d<160)=False):=eq_false λhh=>by have:=(gL d 160 (by omega)).1.1 hh;omega
     have g3:((160≤d)=True):=eq_true ((gL d 160 (by omega)).2.2 (by omega))
     (conv=>arg 4;cbv);simp (maxSteps:=400000) only[↓aI,aJ,BEq.rfl,seval,hg,↓dA,n1,n2,n3,z0,z1,z2,z3,i1,i2,i3,f0,f1,f2,f3,f4,f5,f6,f7,f8,f9,f10,f11,f12,f13,f14,f15,f16,f17,f18,f19,k1,k2,hd1,hhd,e0,e1,e2,e3,g0,g1,g2,g3]
     exact hQ _ 0 rfl (by simp only[true_or,or_true,or_self,or_false,false_or,and_self,true_and,and_true,false_and,and_false,if_true,if_false,false_eq_true,c0,c1,c2,bU,f0,f1,f2,f3,f4,f5,f6,f7,f8,f9,f10,f11,f12,f13,f14,f15,f16,f17,f18,f19,k1,k2,hd1,hhd,e0,e1,e2,e3,g0,g1,g2,g3])
   ·skip
    have e0:(((c.toNat:Int)=224)=False):=eq_false (by omega)
    have e1:((c=224)=False):=eq_false λhh=>hc224 (by rw[hh];rfl)
    have e2:(((c.toNat:Int)=237)=False):=eq_false (by omega)
    have e3:((c=237)=False):=eq_false λhh=>Pz (by rw[hh];rfl)
    (conv=>arg 4;cbv);simp (maxSteps:=400000) only[↓aI,aJ,BEq.rfl,seval,hg,↓dA,n1,n2,n3,z0,z1,z2,z3,i1,i2,i3,f0,f1,f2,f3,f4,f5,f6,f7,f8,f9,f10,f11,f12,f13,f14,f15,f16,f17,f18,f19,k1,k2,hd1,hhd,e0,e1,e2,e3]
    exact hQ _ 3 rfl (by simp only[true_or,or_true,or_self,or_false,false_or,and_self,true_and,and_true,false_and,and_false,if_true,if_false,false_eq_true,c0,c1,c2,bU,f0,f1,f2,f3,f4,f5,f6,f7,f8,f9,f10,f11,f12,f13,f14,f15,f16,f17,f18,f19,k1,k2,hd1,hhd,e0,e1,e2,e3])
 ·skip
  have f0:(((c.toNat:Int)<128)=False):=eq_false (by omega)
  have f1:((128≤(c.toNat:Int))=True):=eq_true (by omega)
  have f2:((c<128)=False):=eq_false λhh=>by have:=(gL c 128 (by omega)).1.1 hh;omega
  have f3:((128≤c)=True):=eq_true ((gL c 128 (by omega)).2.2 (by omega))
  have f4:(((c.toNat:Int)<194)=False):=eq_false (by omega)
  have f5:((194≤(c.toNat:Int))=True):=eq_true (by omega)
  have f6:((c<194)=False):=eq_false λhh=>by have:=(gL c 194 (by omega)).1.1 hh;omega
  have f7:((194≤c)=True):=eq_true ((gL c 194 (by omega)).2.2 (by omega))
  have f8:(((c.toNat:Int)<224)=False):=eq_false (by omega)
  have f9:((224≤(c.toNat:Int))=True):=eq_true (by omega)
  have f10:((c<224)=False):=eq_false λhh=>by have:=(gL c 224 (by omega)).1.1 hh;omega
  have f11:((224≤c)=True):=eq_true ((gL c 224 (by omega)).2.2 (by omega))
  have f12:(((c.toNat:Int)<240)=False):=eq_false (by omega)
  have f13:((240≤(c.toNat:Int))=True):=eq_true (by omega)
  have f14:((c<240)=False):=eq_false λhh=>by have:=(gL c 240 (by omega)).1.1 hh;omega
  have f15:((240≤c)=True):=eq_true ((gL c 240 (by omega)).2.2 (by omega))
  have f16:(((c.toNat:Int)<245)=True):=eq_true (by omega)
  have f17:((245≤(c.toNat:Int))=False):=eq_false (by omega)
  have f18:((c<245)=True):=eq_true ((gL c 245 (by omega)).1.2 (by omega))
  have f19:((245≤c)=False):=eq_false λhh=>by have:=(gL c 245 (by omega)).2.1 hh;omega
  cases k1:eT s (i+1)
  ·skip
   (conv=>arg 4;cbv);simp (maxSteps:=400000) only[↓aI,aJ,BEq.rfl,seval,hg,↓dA,n1,n2,n3,z0,z1,z2,z3,i1,i2,i3,f0,f1,f2,f3,f4,f5,f6,f7,f8,f9,f10,f11,f12,f13,f14,f15,f16,f17,f18,f19,k1]
   exact hQ _ 0 rfl (by simp only[true_or,or_true,or_self,or_false,false_or,and_self,true_and,and_true,false_and,and_false,if_true,if_false,false_eq_true,c0,c1,c2,bU,f0,f1,f2,f3,f4,f5,f6,f7,f8,f9,f10,f11,f12,f13,f14,f15,f16,f17,f18,f19,k1])
  cases k2:eT s (i+2)
  ·skip
   (conv=>arg 4;cbv);simp (maxSteps:=400000) only[↓aI,aJ,BEq.rfl,seval,hg,↓dA,n1,n2,n3,z0,z1,z2,z3,i1,i2,i3,f0,f1,f2,f3,f4,f5,f6,f7,f8,f9,f10,f11,f12,f13,f14,f15,f16,f17,f18,f19,k1,k2]
   exact hQ _ 0 rfl (by simp only[true_or,or_true,or_self,or_false,false_or,and_self,true_and,and_true,false_and,and_false,if_true,if_false,false_eq_true,c0,c1,c2,bU,f0,f1,f2,f3,f4,f5,f6,f7,f8,f9,f10,f11,f12,f13,f14,f15,f16,f17,f18,f19,k1,k2])
  cases k3:eT s (i+3)
  ·skip
   (conv=>arg 4;cbv);simp (maxSteps:=400000) only[↓aI,aJ,BEq.rfl,seval,hg,↓dA,n1,n2,n3,z0,z1,z2,z3,i1,i2,i3,f0,f1,f2,f3,f4,f5,f6,f7,f8,f9,f10,f11,f12,f13,f14,f15,f16,f17,f18,f19,k1,k2,k3]
   exact hQ _ 0 rfl (by simp only[true_or,or_true,or_self,or_false,false_or,and_self,true_and,and_true,false_and,and_false,if_true,if_false,false_eq_true,c0,c1,c2,bU,f0,f1,f2,f3,f4,f5,f6,f7,f8,f9,f10,f11,f12,f13,f14,f15,f16,f17,f18,f19,k1,k2,k3])
  obtain⟨d,hd1⟩:=Ad k1
  have hhd:(List.drop (i+1) s).headD 0=d:=by rw[List.headD_eq_head?_getD,List.head?_drop,hd1];rfl
  by_cases hc240:c.toNat=240
  ·have PD:c.toNat≠244:=by omega
   have e0:(((c.toNat:Int)=240)=True):=eq_true (by omega)
   have e1:((c=240)=True):=eq_true (UInt8.toNat_inj.1 (by simpa using hc240))
   have e2:(((c.toNat:Int)=244)=False):=eq_false (by omega)
   have e3:((c=244)=False):=eq_false λhh=>PD (by rw[hh];rfl)
   by_cases hdl:d.toNat<144
   ·skip
    have g0:(((d.toNat:Int)<144)=True):=eq_true (by omega)
    have g1:((144≤(d.toNat:Int))=False):=eq_false (by omega)
    have g2:((d<144)=True):=eq_true ((gL d 144 (by omega)).1.2 (by omega))
    have g3:((144≤d)=False):=eq_false λhh=>by have:=(gL d 144 (by omega)).2.1 hh;omega
    (conv=>arg 4;cbv);simp (maxSteps:=400000) only[↓aI,aJ,BEq.rfl,seval,hg,↓dA,n1,n2,n3,z0,z1,z2,z3,i1,i2,i3,f0,f1,f2,f3,f4,f5,f6,f7,f8,f9,f10,f11,f12,f13,f14,f15,f16,f17,f18,f19,k1,k2,k3,hd1,hhd,e0,e1,e2,e3,g0,g1,g2,g3]
    exact hQ _ 0 rfl (by simp only[true_or,or_true,or_self,or_false,false_or,and_self,true_and,and_true,false_and,and_false,if_true,if_false,false_eq_true,c0,c1,c2,bU,f0,f1,f2,f3,f4,f5,f6,f7,f8,f9,f10,f11,f12,f13,f14,f15,f16,f17,f18,f19,k1,k2,k3,hd1,hhd,e0,e1,e2,e3,g0,g1,g2,g3])
   ·skip
    have g0:(((d.toNat:Int)<144)=False):=eq_false (by omega)
    have g1:((144≤(d.toNat:Int))=True):=eq_true (by omega)
    have g2:((d<144)=False):=eq_false λhh=>by have:=(gL d 144 (by omega)).1.1 hh;omega
    have g3:((144≤d)=True):=eq_true ((gL d 144 (by omega)).2.2 (by omega))
    (conv=>arg 4;cbv);simp (maxSteps:=400000) only[↓aI,aJ,BEq.rfl,seval,hg,↓dA,n1,n2,n3,z0,z1,z2,z3,i1,i2,i3,f0,f1,f2,f3,f4,f5,f6,f7,f8,f9,f10,f11,f12,f13,f14,f15,f16,f17,f18,f19,k1,k2,k3,hd1,hhd,e0,e1,e2,e3,g0,g1,g2,g3]
    exact hQ _ 4 rfl (by simp only[true_or,or_true,or_self,or_false,false_or,and_self,true_and,and_true,false_and,and_false,if_true,if_false,false_eq_true,c0,c1,c2,bU,f0,f1,f2,f3,f4,f5,f6,f7,f8,f9,f10,f11,f12,f13,f14,f15,f16,f17,f18,f19,k1,k2,k3,hd1,hhd,e0,e1,e2,e3,g0,g1,g2,g3])
  ·by_cases PD:c.toNat=244
   ·skip
    have e0:(((c.toNat:Int)=240)=False):=eq_false (by omega)
    have e1:((c=240)=False):=eq_false λhh=>hc240 (by rw[hh];rfl)
    have e2:(((c.toNat:Int)=244)=True):=eq_true (by omega)
    have e3:((c=244)=True):=eq_true (UInt8.toNat_inj.1 (by simpa using PD))
    by_cases hdl:d.toNat<144
    ·skip
     have g0:(((d.toNat:Int)<144)=True):=eq_true (by omega)
     have g1:((144≤(d.toNat:Int))=False):=eq_false (by omega)
     have g2:((d<144)=True):=eq_true ((gL d 144 (by omega)).1.2 (by omega))
     have g3:((144≤d)=False):=eq_false λhh=>by have:=(gL d 144 (by omega)).2.1 hh;omega
     (conv=>arg 4;cbv);simp (maxSteps:=400000) only[↓aI,aJ,BEq.rfl,seval,hg,↓dA,n1,n2,n3,z0,z1,z2,z3,i1,i2,i3,f0,f1,f2,f3,f4,f5,f6,f7,f8,f9,f10,f11,f12,f13,f14,f15,f16,f17,f18,f19,k1,k2,k3,hd1,hhd,e0,e1,e2,e3,g0,g1,g2,g3]
     exact hQ _ 4 rfl (by simp only[true_or,or_true,or_self,or_false,false_or,and_self,true_and,and_true,false_and,and_false,if_true,if_false,false_eq_true,c0,c1,c2,bU,f0,f1,f2,f3,f4,f5,f6,f7,f8,f9,f10,f11,f12,f13,f14,f15,f16,f17,f18,f19,k1,k2,k3,hd1,hhd,e0,e1,e2,e3,g0,g1,g2,g3])
    ·skip
     have g0:(((d.toNat:Int)<144)=False):=eq_false (by omega)
     have g1:((144≤(d.toNat:Int))=True):=eq_true (by omega)
     have g2:((d<144)=False):=eq_false λhh=>by have:=(gL d 144 (by omega)).1.1 hh;omega
     have g3:((144≤d)=True):=eq_true ((gL d 144 (by omega)).2.2 (by omega))
     (conv=>arg 4;cbv);simp (maxSteps:=400000) only[↓aI,aJ,BEq.rfl,seval,hg,↓dA,n1,n2,n3,z0,z1,z2,z3,i1,i2,i3,f0,f1,f2,f3,f4,f5,f6,f7,f8,f9,f10,f11,f12,f13,f14,f15,f16,f17,f18,f19,k1,k2,k3,hd1,hhd,e0,e1,e2,e3,g0,g1,g2,g3]
     exact hQ _ 0 rfl (by simp only[true_or,or_true,or_self,or_false,false_or,and_self,true_and,and_true,false_and,and_false,if_true,if_false,false_eq_true,c0,c1,c2,bU,f0,f1,f2,f3,f4,f5,f6,f7,f8,f9,f10,f11,f12,f13,f14,f15,f16,f17,f18,f19,k1,k2,k3,hd1,hhd,e0,e1,e2,e3,g0,g1,g2,g3])
   ·skip
    have e0:(((c.toNat:Int)=240)=False):=eq_false (by omega)
    have e1:((c=240)=False):=eq_false λhh=>hc240 (by rw[hh];rfl)
    have e2:(((c.toNat:Int)=244)=False):=eq_false (by omega)
    have e3:((c=244)=False):=eq_false λhh=>PD (by rw[hh];rfl)
    (conv=>arg 4;cbv);simp (maxSteps:=400000) only[↓aI,aJ,BEq.rfl,seval,hg,↓dA,n1,n2,n3,z0,z1,z2,z3,i1,i2,i3,f0,f1,f2,f3,f4,f5,f6,f7,f8,f9,f10,f11,f12,f13,f14,f15,f16,f17,f18,f19,k1,k2,k3,hd1,hhd,e0,e1,e2,e3]
    exact hQ _ 4 rfl (by simp only[true_or,or_true,or_self,or_false,false_or,and_self,true_and,and_true,false_and,and_false,if_true,if_false,false_eq_true,c0,c1,c2,bU,f0,f1,f2,f3,f4,f5,f6,f7,f8,f9,f10,f11,f12,f13,f14,f15,f16,f17,f18,f19,k1,k2,k3,hd1,hhd,e0,e1,e2,e3])
 ·skip
  have f0:(((c.toNat:Int)<128)=False):=eq_false (by omega)
  have f1:((128≤(c.toNat:Int))=True):=eq_true (by omega)
  have f2:((c<128)=False):=eq_false λhh=>by have:=(gL c 128 (by omega)).1.1 hh;omega
  have f3:((128≤c)=True):=eq_true ((gL c 128 (by omega)).2.2 (by omega))
  have f4:(((c.toNat:Int)<194)=False):=eq_false (by omega)
  have f5:((194≤(c.toNat:Int))=True):=eq_true (by omega)
  have f6:((c<194)=False):=eq_false λhh=>by have:=(gL c 194 (by omega)).1.1 hh;omega
  have f7:((194≤c)=True):=eq_true ((gL c 194 (by omega)).2.2 (by omega))
  have f8:(((c.toNat:Int)<224)=False):=eq_false (by omega)
  have f9:((224≤(c.toNat:Int))=True):=eq_true (by omega)
  have f10:((c<224)=False):=eq_false λhh=>by have:=(gL c 224 (by omega)).1.1 hh;omega
  have f11:((224≤c)=True):=eq_true ((gL c 224 (by omega)).2.2 (by omega))
  have f12:(((c.toNat:Int)<240)=False):=eq_false (by omega)
  have f13:((240≤(c.toNat:Int))=True):=eq_true (by omega)
  have f14:((c<240)=False):=eq_false λhh=>by have:=(gL c 240 (by omega)).1.1 hh;omega
  have f15:((240≤c)=True):=eq_true ((gL c 240 (by omega)).2.2 (by omega))
  have f16:(((c.toNat:Int)<245)=False):=eq_false (by omega)
  have f17:((245≤(c.toNat:Int))=True):=eq_true (by omega)
  have f18:((c<245)=False):=eq_false λhh=>by have:=(gL c 245 (by omega)).1.1 hh;omega
  have f19:((245≤c)=True):=eq_true ((gL c 245 (by omega)).2.2 (by omega))
  (conv=>arg 4;cbv);simp (maxSteps:=400000) only[↓aI,aJ,BEq.rfl,seval,hg,↓dA,n1,n2,n3,z0,z1,z2,z3,i1,i2,i3,f0,f1,f2,f3,f4,f5,f6,f7,f8,f9,f10,f11,f12,f13,f14,f15,f16,f17,f18,f19]
  exact hQ _ 0 rfl (by simp only[true_or,or_true,or_self,or_false,false_or,and_self,true_and,and_true,false_and,and_false,if_true,if_false,false_eq_true,c0,c1,c2,bU,f0,f1,f2,f3,f4,f5,f6,f7,f8,f9,f10,f11,f12,f13,f14,f15,f16,f17,f18,f19])
theorem NJ(s:List UInt8)(i:Int)(h0:0≤i)(hi:i.toNat<s.length)(hl:s.length≤4611686018427387904):av Tryz.prog 61 [.str s,.int .i64 i] [] (.int .i64 (bU (s.drop i.toNat):Nat)) []:=by
 have e:i=(i.toNat:Int):=by omega
 rw[e]
 exact Q_ s i.toNat hi hl
def BZ:fu:=λargs objs K=>match args with
 | [.str s,.int .i64 i]=>(0≤i)∧(i.toNat<s.length)∧(s.length≤4611686018427387904)∧K (.int .i64 (bU (s.drop i.toNat):Nat)) objs 0
 | _=>False
theorem NK:aQ Tryz.prog 61 (BZ):=by
 intro args objs K h
 unfold BZ at h
 split at h
 ·rename_i s i
  obtain⟨h1,h2,h3,hk⟩:=h
  exact⟨_,_,_,.pure _ rfl (NJ s i h1 h2 h3),hk⟩
 ·exact h.elim
end Lp
namespace Lp
open Go Go.Proofs
theorem TU(s:List UInt8):bU s≤s.length:=by
 cases s with
 | nil=>simp[bU]
 | cons c t=>
  have h0:∀i,eT t i=true→i<t.length:=by
   intro i h
   obtain⟨d,hd⟩:=Ad h
   exact (List.getElem?_eq_some_iff.1 hd).1
  simp only[bU,List.length_cons]
  split
  ·omega
  ·split
   ·rename_i h;have:=h0 0 h.2.2;omega
   ·split
    ·rename_i h;have:=h0 1 h.2.2.2;split<;>omega
    ·split
     ·rename_i h;have:=h0 2 h.2.2.2.2;split<;>omega
     ·omega
theorem TV(s:List UInt8)(hl:s.length≤4611686018427387904):av Tryz.prog 37 [.str s] [] (.bool (utf s)) []:=by
 refine Ab.cZ (T:=bH Tryz.prog [(61,BZ)]) 0 hD (ax (af NK au)) bM (by decide) λQ hQ=>?_
 (conv=>arg 4;cbv);simp (maxSteps:=400000) only[↓aI,aJ,BEq.rfl,seval,hQ]
 refine bA (λm S=>∃i:Nat,i+m=s.length∧Cn m (s.drop i)=utf s∧S=⟨dR 17 [(0,.str s),(3,.int .i64 i)],[]⟩) s.length ⟨0,by omega,rfl,?_⟩ ?_
 ·simp only[dX,keepR,Nat.reduceAdd,tK,Nat.reduceBEq,List.map_nil]
  rfl
 rintro m S ⟨i,him,hu,rfl⟩
 simp (maxSteps:=400000) only[↓aI,aJ,BEq.rfl,seval,hQ,↓BZ]
 have hle:=TU (s.drop i)
 simp only[List.length_drop]at hle
 refine⟨λh=>⟨by omega,by omega,hl,λh0=>?_,λh0=>⟨⟨by omega,by omega⟩,m-bU (s.drop i),by omega,i+bU (s.drop i),by omega,?_,by simp⟩⟩,λh=>?_⟩
 ·obtain⟨m,rfl⟩:∃k,m=k+1:=⟨m-1,by omega⟩
  have hne:(s.drop i).isEmpty=false:=by
   rw[List.isEmpty_eq_false_iff]
   intro he
   have:=congrArg List.length he
   simp at this;omega
  rw[←hu,Cn,hne]
  have:bU (s.drop i)=0:=by omega
  simp[this]
 ·obtain⟨m,rfl⟩:∃k,m=k+1:=⟨m-1,by omega⟩
  have hne:(s.drop i).isEmpty=false:=by
   rw[List.isEmpty_eq_false_iff]
   intro he
   have:=congrArg List.length he
   simp at this;omega
  rw[←hu]
  conv=>rhs;rw[Cn,hne]
  have h1:(bU (s.drop i) !=0)=true:=by simp;omega
  rw[h1,Bool.false_or,Bool.true_and,List.drop_drop]
  refine zI _ _ _ ?_ ?_
  ·simp;omega
  ·simp;omega
 ·rw[←hu]
  have hn:s.drop i=[]:=List.drop_eq_nil_of_le (by omega)
  rw[hn]
  cases m<;>rfl
def iy:fu:=λargs objs K=>match args with
 | [.str s]=>(s.length≤4611686018427387904)∧K (.bool (utf s)) objs 0
 | _=>False
theorem GD:aQ Tryz.prog 37 (iy):=by
 intro args objs K h
 unfold iy at h
 split at h
 ·rename_i s
  obtain⟨h1,hk⟩:=h
  exact⟨_,_,_,.pure _ rfl (TV s h1),hk⟩
 ·exact h.elim
theorem IB(s:List UInt8)(hl:s.length≤4611686018427387904):av Tryz.prog 85 [.str s] [] (.bool (rZ s)) []:=by
 refine tO.cZ (T:=bH Tryz.prog []) 0 hD (ax au) bM (by decide) λQ hQ=>?_
 (conv=>arg 4;cbv);simp (maxSteps:=400000) only[↓aI,aJ,BEq.rfl,seval,hQ]
 refine bA (λm S=>∃i:Nat,i+m=s.length∧rZ (s.drop i)=rZ s∧S=⟨dR 20 [(0,.str s),(3,.int .i64 i)],[]⟩) s.length ⟨0,by omega,rfl,?_⟩ ?_
 ·simp only[dX,keepR,Nat.reduceAdd,tK,Nat.reduceBEq,List.map_nil]
  rfl
 rintro m S ⟨i,him,hu,rfl⟩
 rcases Nat.lt_or_ge i s.length with h | h
 ·have hg:=List.getElem?_eq_getElem h
  have hd:=List.drop_eq_getElem_cons h
  generalize s[i]=c at hg hd
  simp (maxSteps:=400000) only[↓aI,aJ,BEq.rfl,seval,hQ,hg]
  have hf:rZ (c::s.drop (i+1))=(decide (48≤c) && decide (c≤57) && rZ (s.drop (i+1))):=by simp[rZ]
  rw[hd,hf]at hu
  refine⟨λ_=>⟨by omega,λh1=>?_,λh1=>⟨by omega,λh2=>?_,λh2=>⟨⟨by omega,by omega⟩,m-1,by omega,i+1,by omega,?_,by simp⟩⟩⟩,λh1=>absurd (by omega) h1⟩
  ·have:¬ (48≤c):=λh=>by have:=(gL c 48 (by omega)).2.1 h;omega
   rw[←hu];simp[this]
  ·have:¬ (c≤57):=λh=>by have:c.toNat≤(57:UInt8).toNat:=UInt8.le_iff_toNat_le.1 h;have h57:(57:UInt8).toNat=57:=rfl;omega
   rw[←hu];simp[this]
  ·have h3:48≤c:=(gL c 48 (by omega)).2.2 (by omega)
   have h4:c≤57:=UInt8.le_iff_toNat_le.2 (by have h57:(57:UInt8).toNat=57:=rfl;omega)
   rw[←hu];simp[h3,h4]
 ·simp (maxSteps:=400000) only[↓aI,aJ,BEq.rfl,seval,hQ]
  refine⟨λh1=>absurd h1 (by omega),λ_=>?_⟩
  rw[←hu,List.drop_eq_nil_of_le h];rfl
def vz:fu:=λargs objs K=>match args with
 | [.str s]=>(s.length≤4611686018427387904)∧K (.bool (rZ s)) objs 0
 | _=>False
theorem NM:aQ Tryz.prog 85 (vz):=by
 intro args objs K h
 unfold vz at h
 split at h
 ·rename_i s
  obtain⟨h1,hk⟩:=h
  exact⟨_,_,_,.pure _ rfl (IB s h1),hk⟩
 ·exact h.elim
theorem yS(n:Nd):xS n=true↔n.many=0∧rZ n.s=true∧n.s.length≤100∧-1000≤n.e∧n.e≤1000∧n.s.length+n.e≤1000∧
  (if n.s=[] then n.neg=false∧n.e=0 else n.s.head?≠some 48∧n.s.getLast?≠some 48):=by
 simp only[xS,Bool.and_eq_true,decide_eq_true_eq,beq_iff_eq,and_assoc]
 split<;>simp
theorem gG{b:Bool}(h:b=true→False):b=false:=by cases b<;>simp_all
theorem E9(n:Nd)(hl:n.s.length≤4611686018427387904)(hk:n.kind=3)(hn:n.name=[]):av Tryz.prog 60 [aM n] [] (.bool (xS n)) []:=by
 refine w9.cZ (T:=bH Tryz.prog [(85,vz)]) 0 hD (ax (af NM au)) bM (by decide) λQ hQ=>?_
 (conv=>arg 4;cbv);simp (maxSteps:=400000) only[↓aI,aJ,BEq.rfl,seval,hQ]
 refine aY _ (Weak.freeze 1 0 (Nat.le_refl _) _) ?_
 cases hf:rZ n.s
 ·simp (maxSteps:=400000) only[↓aI,aJ,BEq.rfl,seval,hQ,oo,↓vz,hk,hn,hf]
  have:xS n=false:=gG λh=>by have:=((yS n).1 h).2.1;rw[hf]at this;cases this
  exact⟨λ_=>⟨hl,this⟩,λ_=>this⟩
 by_cases hs:n.s=[]
 ·simp (maxSteps:=400000) only[↓aI,aJ,BEq.rfl,seval,hQ,oo,↓vz,hk,hn,hs]
  have hf0:rZ []=true:=rfl
  have key:=yS n
  rw[if_pos hs,hs]at key
  have hlz:(([]:List UInt8).length:Int)=0:=rfl
  simp only[hf0,Yx,hlz,Int.zero_add,List.length_nil]
  refine⟨λh0=>⟨λh=>gG λhb=>?_,λh1=>⟨λh=>gG λhb=>?_,λh2=>⟨⟨by omega,by omega⟩,λh=>gG λhb=>?_,λh3=>?_⟩⟩⟩,λh0=>gG λhb=>?_⟩
  ·have:=key.1 hb;omega
  ·have:=key.1 hb;omega
  ·have:=key.1 hb;omega
  ·refine⟨λYI=>gG λhb=>?_,λYI=>?_⟩
   ·have:=(key.1 hb).2.2.2.2.2.2.1;rw[YI]at this;cases this
   ·by_cases hz:n.e=0
    ·rw[decide_eq_true hz,key]
     exact⟨h0,hf0,by simp,by omega,by omega,by simp;omega,YI,hz⟩
    ·rw[decide_eq_false hz]
     exact gG λhb=>hz (key.1 hb).2.2.2.2.2.2.2
  ·have:=key.1 hb;omega
 ·obtain⟨c,t,hct⟩:∃c t,n.s=c::t:=by
    cases h:n.s with
    | nil=>exact absurd h hs
    | cons c t=>exact⟨c,t,rfl⟩
  have hlen:0<n.s.length:=by rw[hct];simp
  have g0:n.s[0]?=some c:=by rw[hct];rfl
  have g1:n.s[n.s.length-1]?=some (n.s[n.s.length-1]'(by omega)):=List.getElem?_eq_getElem (by omega)
  have t1:((n.s.length:Int)-1).toNat=n.s.length-1:=by omega
  have hl1:n.s.getLast?=some (n.s[n.s.length-1]'(by omega)):=by rw[List.getLast?_eq_getElem?,g1]
  have hh1:n.s.head?=some c:=by rw[hct];rfl
  generalize n.s[n.s.length-1]'(by omega)=d at g1 hl1
  have i1:(-9223372036854775808≤(n.s.length:Int)-1∧(n.s.length:Int)-1≤9223372036854775807)=True:=eq_true ⟨by omega,by omega⟩
  have z1:(0≤(n.s.length:Int)-1)=True:=eq_true (by omega)
  simp (maxSteps:=400000) only[↓aI,aJ,BEq.rfl,seval,hQ,oo,↓vz,hk,hn,hs,hf,g0,t1,g1,i1,z1]
  have key:=yS n
  rw[if_neg hs,hh1,hl1]at key
  have e48:∀x:UInt8,x=48↔x.toNat=48:=λx=>⟨λh=>by rw[h];rfl,λh=>UInt8.toNat_inj.1 (by simpa using h)⟩
  refine⟨λh0=>⟨hl,λh=>gG λhb=>?_,λh1=>⟨λh=>gG λhb=>?_,λh2=>⟨λh=>gG λhb=>?_,λh3=>⟨⟨by omega,by omega⟩,λh=>gG λhb=>?_,λh4=>⟨λh=>gG λhb=>?_,λh5=>?_⟩⟩⟩⟩⟩,λh0=>gG λhb=>?_⟩
  ·have:=key.1 hb;omega
  ·have:=key.1 hb;omega
  ·have:=key.1 hb;omega
  ·have:=key.1 hb;omega
  ·refine (key.1 hb).2.2.2.2.2.2.1 ?_
   rw[(e48 c).2 (by omega)]
  ·by_cases hz:d.toNat=48
   ·have hz':(d.toNat:Int)=48:=by omega
    rw[decide_eq_true hz']
    refine gG λhb=>(key.1 hb).2.2.2.2.2.2.2 ?_
    rw[(e48 d).2 hz]
   ·have hz':¬ (d.toNat:Int)=48:=by omega
    rw[decide_eq_false hz',Bool.not_false,key]
    refine⟨h0,hf,by omega,by omega,by omega,by omega,λh=>?_,λh=>?_⟩
    ·have:=(e48 c).1 (by simpa using h);omega
    ·exact hz ((e48 d).1 (by simpa using h))
  ·exact h0 (key.1 hb).1
def dQ:fu:=λargs objs K=>match args with
 | [a0]=>jF aM a0 (HK.mk:HK λn=>(n.s.length≤4611686018427387904)∧(n.kind=3)∧(n.name=[])∧K (.bool (xS n)) objs 0)
 | _=>False
theorem DF:aQ Tryz.prog 60 (dQ):=by
 intro args objs K h
 unfold dQ at h
 split at h
 ·rename_i a0
  obtain⟨n,rfl,h1,h2,h3,hk⟩:=h
  exact⟨_,_,_,.pure _ rfl (E9 n h1 h2 h3),hk⟩
 ·exact h.elim
end Lp
namespace Lp
open Go Go.Proofs
def t_(v:Vl)(i:Nat):Int:=match lW v.length (v.drop i) 1 with
 | some c=>(i+c:Nat)
 | none=>-1
theorem xh{v:Vl}{i:Nat}(h:(lW v.length (v.drop i) 1).map (λc=>i+c)=none):t_ v i=-1:=by
 unfold t_
 cases hx:lW v.length (v.drop i) 1 with
 | none=>rfl
 | some c=>rw[hx]at h;simp at h
theorem DI{v:Vl}{i j:Nat}(h:(lW v.length (v.drop i) 1).map (λc=>i+c)=some j):t_ v i=j:=by
 unfold t_
 cases hx:lW v.length (v.drop i) 1 with
 | none=>rw[hx]at h;simp at h
 | some c=>rw[hx]at h;simp only[Option.map_some,Option.some.injEq]at h;rw[←h]
theorem yT(L:Nat)(v:Vl):lW L v 0=some 0:=by cases v<;>rfl
theorem Ra(v:Vl)(i:Nat)(hi:i≤v.length)(hl:v.length≤1000000):av Tryz.prog 34 [ak v,.int .i64 i] [] (.int .i64 (t_ v i)) []:=by
 refine yL.cZ (T:=bH Tryz.prog []) 0 hD (ax au) bM (by decide) λQ hQ=>?_
 (conv=>arg 4;cbv);simp (maxSteps:=400000) only[↓aI,aJ,BEq.rfl,seval,hQ]
 refine bA (λm S=>∃j k:Nat,j+m=v.length∧k≤1+j*1000000∧(lW v.length (v.drop i) 1).map (λc=>i+c)=(lW v.length (v.drop j) k).map (λc=>j+c)∧
  S=⟨dR 41 [(0,ak v),(1,.int .i64 j),(5,.int .i64 k)],[]⟩) (v.length-i) ⟨i,1,by omega,by omega,rfl,?_⟩ ?_
 ·simp only[dX,keepR,Nat.reduceAdd,tK,Nat.reduceBEq,List.map_nil]
  rfl
 rintro m S ⟨j,k,hjm,hk,hn,rfl⟩
 rcases Nat.lt_or_ge j v.length with h | h
 ·have hg:=List.getElem?_eq_getElem h
  have hd:=List.drop_eq_getElem_cons h
  generalize v[j]=n at hg hd
  simp (maxSteps:=400000) only[↓aI,aJ,BEq.rfl,seval,hQ,hg]
  refine⟨λhk0=>⟨λh'=>absurd h' (by omega),λ_=>⟨by omega,λhm=>?_,λhm=>⟨by omega,λhm2=>?_,λhm2=>?_⟩⟩⟩,λhk0=>?_⟩
  ·obtain⟨k,rfl⟩:∃q,k=q+1:=⟨k-1,by omega⟩
   rw[hd,lW,if_pos (.inl hm)]at hn
   rw[xh hn]
  ·obtain⟨k,rfl⟩:∃q,k=q+1:=⟨k-1,by omega⟩
   rw[hd,lW,if_pos (.inr hm2)]at hn
   rw[xh hn]
  ·obtain⟨k,rfl⟩:∃q,k=q+1:=⟨k-1,by omega⟩
   rw[hd,lW,if_neg (by omega)]at hn
   have hk2:(((k+1:Nat):Int)-1+n.many)=((k+n.many.toNat:Nat):Int):=by omega
   refine⟨⟨by omega,by omega⟩,by omega,⟨by omega,by omega⟩,⟨by omega,by omega⟩,m-1,by omega,j+1,k+n.many.toNat,by omega,by omega,?_,?_⟩
   ·rw[hn]
    cases lW v.length (v.drop (j+1)) (k+n.many.toNat) with
    | none=>rfl
    | some c=>simp;omega
   ·rw[hk2];rfl
  ·have hk1:k=0:=by omega
   subst hk1
   rw[yT]at hn
   rw[DI (j:=j) (by simpa using hn)]
 ·simp (maxSteps:=400000) only[↓aI,aJ,BEq.rfl,seval,hQ]
  refine⟨λhk0=>⟨λ_=>?_,λh'=>absurd (by omega) h'⟩,λhk0=>?_⟩
  ·obtain⟨k,rfl⟩:∃q,k=q+1:=⟨k-1,by omega⟩
   rw[List.drop_eq_nil_of_le h]at hn
   simp only[lW,Option.map_none]at hn
   rw[xh hn]
  ·have hk1:k=0:=by omega
   subst hk1
   rw[yT]at hn
   rw[DI (j:=j) (by simpa using hn)]
theorem NN(v:Vl)(i:Int)(h0:0≤i)(hi:i.toNat≤v.length)(hl:v.length≤1000000):av Tryz.prog 34 [ak v,.int .i64 i] [] (.int .i64 (t_ v i.toNat)) []:=by
 have e:i=(i.toNat:Int):=by omega
 rw[e]
 exact Ra v i.toNat hi hl
def jJ:fu:=λargs objs K=>match args with
 | [a0,.int .i64 i]=>jF ak a0 (HK.mk:HK λv=>(0≤i)∧(i.toNat≤v.length)∧(v.length≤1000000)∧K (.int .i64 (t_ v i.toNat)) objs 0)
 | _=>False
theorem DJ:aQ Tryz.prog 34 (jJ):=by
 intro args objs K h
 unfold jJ at h
 split at h
 ·rename_i a0 i
  obtain⟨v,rfl,h1,h2,h3,hk⟩:=h
  exact⟨_,_,_,.pure _ rfl (NN v i h1 h2 h3),hk⟩
 ·exact h.elim
end Lp
namespace Lp
open Go Go.Proofs
open Int (reduceEq)
theorem NP(n:Nd)(hl:n.s.length≤4611686018427387904):av Tryz.prog 35 [aM n] [] (.bool (bE n)) []:=by
 refine wZ.cZ (T:=bH Tryz.prog [(37,iy),(60,dQ)]) 0 hD (ax (af GD (af DF au))) bM (by decide) λQ hQ=>?_
 have h8:n.kind=0∨n.kind=1∨n.kind=2∨n.kind=3∨n.kind=4∨n.kind=5∨n.kind=6∨(n.kind≠0∧n.kind≠1∧n.kind≠2∧n.kind≠3∧n.kind≠4∧n.kind≠5∧n.kind≠6):=by omega
 rcases h8 with hk | hk | hk | hk | hk | hk | hk | ⟨k0,k1,k2,k3,k4,k5,k6⟩
 ·(conv=>arg 4;cbv);simp (maxSteps:=400000) only[↓aI,aJ,BEq.rfl,seval,hQ,↓iy,↓dQ,hk,reduceEq]
  rw[Bool.eq_iff_iff]
  simp[bE,hk,and_assoc]
 ·(conv=>arg 4;cbv);simp (maxSteps:=400000) only[↓aI,aJ,BEq.rfl,seval,hQ,↓iy,↓dQ,hk,reduceEq]
  rw[Bool.eq_iff_iff]
  simp[bE,hk,and_assoc]
 ·(conv=>arg 4;cbv);simp (maxSteps:=400000) only[↓aI,aJ,BEq.rfl,seval,hQ,↓iy,↓dQ,hk,reduceEq]
  rw[Bool.eq_iff_iff]
  simp[bE,hk,and_assoc]
 ·(conv=>arg 4;cbv);simp (maxSteps:=400000) only[↓aI,aJ,BEq.rfl,seval,hQ,↓iy,↓dQ,hk,reduceEq]
  refine⟨hl,?_⟩
  simp[bE,hk,xS]
 ·(conv=>arg 4;cbv);simp (maxSteps:=400000) only[↓aI,aJ,BEq.rfl,seval,hQ,↓iy,↓dQ,hk,reduceEq]
  refine⟨hl,?_⟩
  cases hu:utf n.s
  ·simp[wX,bE,hk,hu]
  ·simp only[Yx]
   rw[Bool.eq_iff_iff]
   simp[bE,hk,hu,and_assoc]
 ·(conv=>arg 4;cbv);simp (maxSteps:=400000) only[↓aI,aJ,BEq.rfl,seval,hQ,↓iy,↓dQ,hk,reduceEq]
  refine⟨λhm=>?_,λhm=>?_⟩
  ·rw[Bool.eq_iff_iff]
   simp[bE,hk,hm,and_assoc]
  ·simp[bE,hk,hm]
 ·(conv=>arg 4;cbv);simp (maxSteps:=400000) only[↓aI,aJ,BEq.rfl,seval,hQ,↓iy,↓dQ,hk,reduceEq]
  refine⟨λhm=>?_,λhm=>?_⟩
  ·rw[Bool.eq_iff_iff]
   simp[bE,hk,hm,and_assoc]
  ·simp[bE,hk,hm]
 ·(conv=>arg 4;cbv);simp (maxSteps:=400000) only[↓aI,aJ,BEq.rfl,seval,hQ,↓iy,↓dQ,k0,k1,k2,k3,k4,k5,k6]
  simp[bE,k0,k1,k2,k3,k4,k5,k6]
def qh:fu:=λargs objs K=>match args with
 | [a0]=>jF aM a0 (HK.mk:HK λn=>(n.s.length≤4611686018427387904)∧K (.bool (bE n)) objs 0)
 | _=>False
theorem KR:aQ Tryz.prog 35 (qh):=by
 intro args objs K h
 unfold qh at h
 split at h
 ·rename_i a0
  obtain⟨n,rfl,h1,hk⟩:=h
  exact⟨_,_,_,.pure _ rfl (NP n h1),hk⟩
 ·exact h.elim
end Lp
namespace Lp
open Go Go.Proofs
def xk(kind:Int)(name:List UInt8):List Vl→Bool
 | []=>true
 | q::_=>kind !=6 || Op.bytesLess name (nameOf q)
structure Small (v:Vl):Prop where
 len:v.length≤1000000
 txt:∀n∈v,n.s.length≤4611686018427387904∧n.name.length≤4611686018427387904
theorem Ae(L:Nat):∀(v:Vl) (j k c:Nat),lW L v (j+k)=some c→∃c1 c2,lW L v j=some c1∧lW L (v.drop c1) k=some c2∧c=c1+c2
 | v,0,k,c,h=>⟨0,c,yT L v,by simpa using h,by simp⟩
 | [],j+1,k,c,h=>by
  rw[show j+1+k=(j+k)+1 by omega]at h
  simp[lW]at h
 | n::v,j+1,k,c,h=>by
  rw[show j+1+k=(j+k)+1 by omega,lW]at h
  split at h
  ·cases h
  ·rename_i hn
   cases hs:lW L v (j+k+n.many.toNat) with
   | none=>rw[hs]at h;simp at h
   | some c'=>
    rw[hs]at h
    simp only[Option.map_some,Option.some.injEq]at h
    rw[show j+k+n.many.toNat=(j+n.many.toNat)+k by omega]at hs
    obtain⟨c1,c2,h1,h2,rfl⟩:=Ae L v _ k c' hs
    refine⟨c1+1,c2,?_,by simpa using h2,by omega⟩
    rw[lW,if_neg hn,h1];rfl
theorem KS{v:Vl}{i c:Nat}(h:lW v.length (v.drop i) 1=some c):t_ v i=(i+c:Nat):=by
 simp only[t_,h]
theorem KU(v:Vl)(at':Nat)(n:Nd)(c:Nat)(hs:Small v)(hat:v[at']?=some n)(hm:0≤n.many)(hc:lW v.length (v.drop (at'+1)) n.many.toNat=some c)(ps:List Vl)(hps:parts n.many.toNat (v.drop (at'+1))=some ps) :
  av Tryz.prog 36 [ak v,.int .i64 at'] [] (.bool (jo n.kind ps)) []:=by
 obtain⟨hl,htx⟩:=hs
 have ab1:=(List.getElem?_eq_some_iff.1 hat).1
 have hpl:=dS _ _ _ hps
 have aav:=jB _ _ _ hps
 simp only[List.length_drop]at aav
 refine vV.cZ (T:=bH Tryz.prog [(37,iy),(34,jJ)]) 0 hD (ax (af GD (af DJ au))) bM (by decide) λQ hQ=>?_
 (conv=>arg 4;cbv);simp (maxSteps:=400000) only[↓aI,aJ,BEq.rfl,seval,hQ]
 refine⟨⟨by omega,by omega⟩,?_⟩
 refine bA (λm S=>∃(i c':Nat) (rest:List Vl),m=rest.length∧rest.length≤ps.length∧parts rest.length (v.drop i)=some rest∧lW v.length (v.drop i) rest.length=some c'∧jo n.kind rest=jo n.kind ps∧
  S=⟨dR 75 [(0,ak v),(1,.int .i64 at'),(5,.int .i64 i),(6,.int .i64 ((ps.length:Int)-rest.length))],[]⟩) ps.length ⟨at'+1,c,ps,rfl,Nat.le_refl _,by rw[hpl];exact hps,by rw[hpl];exact hc,rfl,?_⟩ ?_
 ·simp only[dX,keepR,Nat.reduceAdd,tK,Nat.reduceBEq,List.map_nil]
  simp
 rintro m S ⟨i,c',rest,rfl,hrl,hrp,hrn,hrb,rfl⟩
 have hmn:n.many=(ps.length:Int):=by omega
 have z0:(0≤(at':Int))=True:=eq_true (by omega)
 have zi:(0≤(i:Int))=True:=eq_true (by omega)
 cases rest with
 | nil=>
  simp (maxSteps:=400000) only[↓aI,aJ,BEq.rfl,seval,hQ,hat,hmn,z0]
  refine⟨λh=>absurd h (by simp),λ_=>?_⟩
  rw[←hrb];rfl
 | cons p qs=>
  obtain⟨pc,qs',h1,h2,h3⟩:=iL (k:=qs.length) hrp
  simp only[List.cons.injEq]at h2
  obtain⟨rfl,rfl⟩:=h2
  have hpc:=iB _ _ _ h1
  simp only[List.length_drop]at hpc
  have hil:i<v.length:=by omega
  have hgi:=List.getElem?_eq_getElem hil
  have hdi:=List.drop_eq_getElem_cons hil
  have KV:=htx _ (List.getElem_mem hil)
  generalize v[i]=pn at hgi hdi KV
  have hname:nameOf (List.take pc (v.drop i))=pn.name:=by
   obtain⟨q,hq⟩:∃q,pc=q+1:=⟨pc-1,by omega⟩
   rw[hdi,hq];rfl
  obtain⟨c1,c2,e1,e2,e3⟩:=Ae v.length (v.drop i) 1 qs.length c' (by rw[Nat.add_comm];exact hrn)
  have hcc:c1=pc:=by
   have:=pU _ _ _ _ e1
   rw[h1]at this
   exact (Option.some.inj this).symm
  subst hcc
  have hnx:=KS e1
  simp only[List.length_cons]at hrl
  have ht1:((i+c1:Nat):Int).toNat=i+c1:=by omega
  have h3':parts qs.length (v.drop (i+c1))=some qs:=by rw[←List.drop_drop];exact h3
  have e2':lW v.length (v.drop (i+c1)) qs.length=some c2:=by rw[←List.drop_drop];exact e2
  have hun:∀x:Bool,xk n.kind pn.name qs=x→jo n.kind (List.take c1 (v.drop i)::qs)=((n.kind !=5 || pn.name==[]) && utf pn.name && x && jo n.kind qs):=by
   intro x hx
   rw[←hx]
   cases qs<;>simp only[jo,xk,hname]
  have Rb:((ps.length:Int)-((qs.length+1:Nat):Int)<(ps.length:Int))=True:=eq_true (by omega)
  cases hu:utf pn.name
  ·have hfin:jo n.kind ps=false:=by rw[←hrb,hun _ rfl,hu];simp
   simp (maxSteps:=400000) only[↓aI,aJ,BEq.rfl,seval,hQ,hat,hmn,z0,zi,hgi,↓iy,↓jJ,hnx,hu,Rb,hfin]
   exact⟨λ_ _=>KV.2,λ_=>KV.2⟩
  by_cases h5:n.kind=5∧pn.name≠[]
  ·have hfin:jo n.kind ps=false:=by rw[←hrb,hun _ rfl];simp[h5.1,h5.2]
   simp (maxSteps:=400000) only[↓aI,aJ,BEq.rfl,seval,hQ,hat,hmn,z0,zi,hgi,↓iy,↓jJ,hnx,hu,Rb,h5.1,h5.2]
   rw[←h5.1];exact hfin
  have hc5:(n.kind !=5 || pn.name==[])=true:=by
   by_cases hk:n.kind=5
   ·have:pn.name=[]:=Decidable.of_not_not λh=>h5 ⟨hk,h⟩
    simp[this]
   ·simp[hk]
  rw[hc5,hu]at hun
  have good:n.kind=5→pn.name=[]:=λhk=>Decidable.of_not_not λh=>h5 ⟨hk,h⟩
  have hlt1:(-9223372036854775808≤(ps.length:Int)-((qs.length+1:Nat):Int)+1∧(ps.length:Int)-((qs.length+1:Nat):Int)+1≤9223372036854775807)=True:=eq_true ⟨by omega,by omega⟩
  have hiv:i≤v.length:=by omega
  have e:(ps.length:Int)-((qs.length+1:Nat):Int)+1=(ps.length:Int)-qs.length:=by omega
  have l1:qs.length<qs.length+1:=Nat.lt_succ_self _
  have l2:qs.length≤ps.length:=by omega
  have zc:(0≤((i+c1:Nat):Int))=True:=eq_true (by omega)
  have step:xk n.kind pn.name qs=true→∃m',m'<qs.length+1∧∃(XF c':Nat) (rest:List Vl),m'=rest.length∧rest.length≤ps.length∧parts rest.length (v.drop XF)=some rest∧lW v.length (v.drop XF) rest.length=some c'∧jo n.kind rest=jo n.kind ps∧
      (⟨dR 75 [(0,ak v),(1,.int .i64 at'),(5,.int .i64 (i+c1:Nat)),(6,.int .i64 ((ps.length:Int)-((qs.length+1:Nat):Int)+1))],[]⟩:St)=⟨dR 75 [(0,ak v),(1,.int .i64 at'),(5,.int .i64 XF),(6,.int .i64 ((ps.length:Int)-rest.length))],[]⟩:=by
   intro hx
   refine⟨qs.length,l1,i+c1,c2,qs,rfl,l2,h3',e2',?_,?_⟩
   ·rw[←hrb,hun true hx];simp
   ·rw[e]
  have stop:xk n.kind pn.name qs=false→jo n.kind ps=false:=λhx=>by rw[←hrb,hun false hx];simp
  by_cases h6:n.kind=6
  ·have h5':¬ n.kind=5:=by omega
   rcases Nat.eq_zero_or_pos qs.length with hq0 | Zc
   ·have hq:qs=[]:=List.length_eq_zero_iff.1 hq0
    have hlast:((ps.length:Int)-((qs.length+1:Nat):Int)+1<(ps.length:Int))=False:=eq_false (by omega)
    have hst:=step (by rw[hq];rfl)
    simp (maxSteps:=400000) only[↓aI,aJ,BEq.rfl,seval,hQ,hat,hmn,z0,zi,hgi,↓iy,↓jJ,hnx,hu,Rb,h6,Int.reduceEq,hlt1,hlast]
    simp only[h6]at hst
    exact⟨KV.2,hiv,hl,hst⟩
   ·obtain⟨q,r,hqr⟩:∃q r,qs=q::r:=by
      cases qs with
      | nil=>simp at Zc
      | cons q r=>exact⟨q,r,rfl⟩
    have hmore:((ps.length:Int)-((qs.length+1:Nat):Int)+1<(ps.length:Int))=True:=eq_true (by omega)
    have g0:=h3'
    rw[hqr]at g0
    obtain⟨pc2,qs2,g1,g2,g3⟩:=iL (k:=r.length) g0
    simp only[List.cons.injEq]at g2
    have abG:=iB _ _ _ g1
    simp only[List.length_drop]at abG
    have aaw:i+c1<v.length:=by omega
    have YJ:=List.getElem?_eq_getElem aaw
    have YK:=List.drop_eq_getElem_cons aaw
    generalize v[i+c1]=qn at YJ YK
    have TW:nameOf q=qn.name:=by
     obtain⟨w,hw⟩:∃w,pc2=w+1:=⟨pc2-1,by omega⟩
     rw[g2.1,YK,hw];rfl
    have hno:xk n.kind pn.name qs=Op.bytesLess pn.name qn.name:=by
     rw[hqr,xk,TW];simp[h6]
    clear g0 g1 g2 g3 hqr TW YK hdi
    cases hbl:Op.bytesLess pn.name qn.name
    ·have hfin:=stop (by rw[hno,hbl])
     simp (maxSteps:=400000) only[↓aI,aJ,BEq.rfl,seval,hQ,hat,hmn,z0,zi,hgi,↓iy,↓jJ,hnx,hu,Rb,h6,Int.reduceEq,hlt1,hmore,zc,ht1,YJ,hbl]
     rw[h6]at hfin
     exact⟨KV.2,hiv,hl,hfin⟩
    ·have hst:=step (by rw[hno,hbl])
     simp (maxSteps:=400000) only[↓aI,aJ,BEq.rfl,seval,hQ,hat,hmn,z0,zi,hgi,↓iy,↓jJ,hnx,hu,Rb,h6,Int.reduceEq,hlt1,hmore,zc,ht1,YJ,hbl]
     simp only[h6]at hst
     exact⟨KV.2,hiv,hl,hst⟩
  ·have hst:=step (by cases qs<;>simp[xk,h6])
   simp (maxSteps:=400000) only[↓aI,aJ,BEq.rfl,seval,hQ,hat,hmn,z0,zi,hgi,↓iy,↓jJ,hnx,hu,Rb,h6,hlt1]
   exact⟨λh5'=>⟨λ_=>⟨KV.2,hiv,hl,hst⟩,λhne=>absurd (good h5') hne⟩,λ_=>⟨KV.2,hiv,hl,hst⟩⟩
end Lp
namespace Lp
open Go Go.Proofs
theorem TY(L:Nat):∀(v:Vl) (k c i:Nat),lW L v k=some c→i<c→∃k' c',lW L (v.drop i) (k'+1)=some c'
 | v,0,c,i,h,hi=>by rw[yT]at h;cases h;omega
 | [],k+1,c,i,h,hi=>by simp[lW]at h
 | n::v,k+1,c,0,h,hi=>⟨k,c,by simpa using h⟩
 | n::v,k+1,c,i+1,h,hi=>by
  rw[lW]at h
  split at h
  ·cases h
  ·cases hs:lW L v (k+n.many.toNat) with
   | none=>rw[hs]at h;simp at h
   | some c'=>
    rw[hs]at h
    simp only[Option.map_some,Option.some.injEq]at h
    simpa using TY L v _ c' i hs (by omega)
def Af(v:Vl)(i:Nat):Bool:=match v.drop i with
 | n::r=>(match parts n.many.toNat r with | some ps=>jo n.kind ps | none=>false)
 | []=>true
theorem NQ{v:Vl}{i:Nat}{n:Nd}(hi:v[i]?=some n):kZ (v.drop i)=(bE n && Af v i && kZ (v.drop (i+1))):=by
 have hl:=(List.getElem?_eq_some_iff.1 hi).1
 have hd:=List.drop_eq_getElem_cons hl
 rw[List.getElem?_eq_getElem hl]at hi
 cases hi
 simp only[Af,hd,kZ]
 rfl
theorem KW(v:Vl)(i:Int)(h0:0≤i)(hi:i.toNat<v.length)(hs:Small v)(hn:lW v.length v 1=some v.length) :
  av Tryz.prog 36 [ak v,.int .i64 i] [] (.bool (Af v i.toNat)) []:=by
 obtain⟨i,rfl⟩:∃k:Nat,i=k:=⟨i.toNat,by omega⟩
 simp only[Int.toNat_natCast]at hi ⊢
 have hg:=List.getElem?_eq_getElem hi
 have hd:=List.drop_eq_getElem_cons hi
 generalize v[i]=n at hg hd
 obtain⟨k',c',h'⟩:=TY v.length v 1 _ i hn hi
 rw[Nat.add_comm]at h'
 obtain⟨c1,_,h1,_,_⟩:=Ae v.length _ 1 k' c' h'
 rw[hd,lW]at h1
 split at h1
 ·cases h1
 ·rename_i hm
  cases hx:lW v.length (v.drop (i+1)) (0+n.many.toNat) with
  | none=>rw[hx]at h1;simp at h1
  | some c=>
   rw[Nat.zero_add]at hx
   obtain⟨ps,hp,_,_⟩:=eu _ _ _ (pU _ _ _ _ hx)
   have:=KU v i n c hs hg (by omega) hx ps hp
   simp only[Af,hd,hp]
   exact this
def nH:fu:=λargs objs K=>match args with
 | [a0,.int .i64 i]=>jF ak a0 (HK.mk:HK λv=>(0≤i)∧(i.toNat<v.length)∧(Small v)∧(lW v.length v 1=some v.length)∧K (.bool (Af v i.toNat)) objs 0)
 | _=>False
theorem IC:aQ Tryz.prog 36 (nH):=by
 intro args objs K h
 unfold nH at h
 split at h
 ·rename_i a0 i
  obtain⟨v,rfl,h1,h2,h3,h4,hk⟩:=h
  exact⟨_,_,_,.pure _ rfl (KW v i h1 h2 h3 h4),hk⟩
 ·exact h.elim
theorem NR(v:Vl)(hs:Small v):av Tryz.prog 19 [ak v] [] (.bool (bK v)) []:=by
 have hl:=hs.len
 refine wY.cZ (T:=bH Tryz.prog [(34,jJ),(35,qh),(36,nH)]) 0 hD (ax (af DJ (af KR (af IC au)))) bM (by decide) λQ hQ=>?_
 rcases Nat.eq_zero_or_pos v.length with hv | hv
 ·have hr:bK v=false:=by
    have:v=[]:=List.length_eq_zero_iff.1 hv
    rw[this];rfl
  have hv':((v.length:Int)=0)=True:=eq_true (by omega)
  (conv=>arg 4;cbv);simp (maxSteps:=400000) only[↓aI,aJ,BEq.rfl,seval,hQ,hr,hv']
 have hv':((v.length:Int)=0)=False:=eq_false (by omega)
 obtain⟨n0,r0,hvr⟩:∃n r,v=n::r:=by
  cases v with
  | nil=>simp at hv
  | cons n r=>exact⟨n,r,rfl⟩
 have hg0:v[0]?=some n0:=by rw[hvr];rfl
 have hnm:nameOf v=n0.name:=by rw[hvr];rfl
 have hne:v.isEmpty=false:=by rw[hvr];rfl
 by_cases hname:n0.name=[]
 rotate_left 1
 ·have hr:bK v=false:=by simp[bK,hnm,hname]
  (conv=>arg 4;cbv);simp (maxSteps:=400000) only[↓aI,aJ,BEq.rfl,seval,hQ,hr,hv',hg0,hname]
 have hz:Int.toNat 0=0:=rfl
 by_cases hnx:t_ v 0=(v.length:Int)
 rotate_left 1
 ·have hr:bK v=false:=by
    have:lW v.length v 1≠some v.length:=λh=>hnx (by rw[KS (i:=0) (by simpa using h)];simp)
    simp[bK,this]
  (conv=>arg 4;cbv);simp (maxSteps:=400000) only[↓aI,aJ,BEq.rfl,seval,hQ,hr,hv',hg0,hname,↓jJ,hnx]
  exact⟨by omega,hl⟩
 have hn:lW v.length v 1=some v.length:=by
  unfold t_ at hnx
  rw[List.drop_zero]at hnx
  cases hx:lW v.length v 1 with
  | none=>rw[hx]at hnx;simp only at hnx;omega
  | some c=>rw[hx]at hnx;simp only at hnx;congr 1;omega
 have hr:bK v=kZ v:=by simp[bK,hnm,hname,hn,hne]
 (conv=>arg 4;cbv);simp (maxSteps:=400000) only[↓aI,aJ,BEq.rfl,seval,hQ,hv',hg0,hname,↓jJ,hnx]
 refine⟨by omega,hl,?_⟩
 refine bA (λm S=>∃i:Nat,i+m=v.length∧kZ (v.drop i)=kZ v∧S=⟨dR 39 [(0,ak v),(3,.int .i64 i)],[]⟩) v.length ⟨0,by omega,rfl,?_⟩ ?_
 ·simp only[dX,keepR,Nat.reduceAdd,tK,Nat.reduceBEq,List.map_nil]
  rfl
 rintro m S ⟨i,him,hgd,rfl⟩
 rcases Nat.lt_or_ge i v.length with h | h
 ·have hg:=List.getElem?_eq_getElem h
  have htx:=hs.txt _ (List.getElem_mem h)
  generalize v[i]=n at hg htx
  have hd:=NQ hg
  rw[hgd]at hd
  have zi:(0≤(i:Int))=True:=eq_true (by omega)
  have hlt:((i:Int)<(v.length:Int))=True:=eq_true (by omega)
  cases hp:bE n
  ·have hr2:bK v=false:=by rw[hr,hd,hp];rfl
   simp (maxSteps:=400000) only[↓aI,aJ,BEq.rfl,seval,hQ,hg,↓qh,↓nH,hp,zi,hlt,hr2]
   exact htx.1
  cases hq:Af v i
  ·have hr2:bK v=false:=by rw[hr,hd,hp,hq];rfl
   simp (maxSteps:=400000) only[↓aI,aJ,BEq.rfl,seval,hQ,hg,↓qh,↓nH,hp,hq,zi,hlt,hr2]
   exact⟨htx.1,h,hs,hn⟩
  ·simp (maxSteps:=400000) only[↓aI,aJ,BEq.rfl,seval,hQ,hg,↓qh,↓nH,hp,hq,zi,hlt]
   refine⟨htx.1,h,hs,hn,⟨by omega,by omega⟩,m-1,by omega,i+1,by omega,?_,by simp⟩
   rw[hd,hp,hq];simp
 ·have hlt:((i:Int)<(v.length:Int))=False:=eq_false (by omega)
  simp (maxSteps:=400000) only[↓aI,aJ,BEq.rfl,seval,hQ,hlt]
  rw[hr,←hgd,List.drop_eq_nil_of_le h];rfl
def qi:fu:=λargs objs K=>match args with
 | [a0]=>jF ak a0 (HK.mk:HK λv=>(Small v)∧K (.bool (bK v)) objs 0)
 | _=>False
theorem Be:aQ Tryz.prog 19 (qi):=by
 intro args objs K h
 unfold qi at h
 split at h
 ·rename_i a0
  obtain⟨v,rfl,h1,hk⟩:=h
  exact⟨_,_,_,.pure _ rfl (NR v h1),hk⟩
 ·exact h.elim
def Ag(n:Nd):Bool:=decide (n.s.length≤200) && decide (n.name.length≤200)
theorem T9(v:Vl)(k:Nat)(hk:k≤1000000)(hs:v.length≤4611686018427387904)(htx:∀n∈v,n.s.length≤4611686018427387904∧n.name.length≤4611686018427387904):av Tryz.prog 8 [ak v,.int .i64 k] [] (.bool (vR v k)) []:=by
 refine Aa.cZ (T:=bH Tryz.prog [(19,qi)]) 0 hD (ax (af Be au)) bM (by decide) λQ hQ=>?_
 rcases Nat.lt_or_ge k v.length with hlen | hlen
 ·have hr:vR v k=false:=by
    have:decide (v.length≤k)=false:=by simp;omega
    simp[vR,this]
  have hlt:((k:Int)<(v.length:Int))=True:=eq_true (by omega)
  (conv=>arg 4;cbv);simp (maxSteps:=400000) only[↓aI,aJ,BEq.rfl,seval,hQ,hr,hlt]
 have hlt:((k:Int)<(v.length:Int))=False:=eq_false (by omega)
 have hr:vR v k=(v.all Ag && bK v):=by
  have:decide (v.length≤k)=true:=by simpa using hlen
  simp only[vR,this,Bool.true_and]
  rfl
 have hsm:Small v:=⟨by omega,htx⟩
 (conv=>arg 4;cbv);simp (maxSteps:=400000) only[↓aI,aJ,BEq.rfl,seval,hQ,hlt]
 refine bA (λm S=>∃i:Nat,i+m=v.length∧(v.drop i).all Ag=v.all Ag∧S=⟨dR 34 [(0,ak v),(5,.int .i64 i)],[]⟩) v.length ⟨0,by omega,rfl,?_⟩ ?_
 ·simp only[dX,keepR,Nat.reduceAdd,tK,Nat.reduceBEq,List.map_nil]
  rfl
 rintro m S ⟨i,him,hal,rfl⟩
 rcases Nat.lt_or_ge i v.length with h | h
 ·have hg:=List.getElem?_eq_getElem h
  have hd:=List.drop_eq_getElem_cons h
  generalize v[i]=n at hg hd
  have zi:(0≤(i:Int))=True:=eq_true (by omega)
  have hlt:((i:Int)<(v.length:Int))=True:=eq_true (by omega)
  rw[hd,List.all_cons]at hal
  by_cases h1:n.s.length≤200
  rotate_left 1
  ·have e1:((200:Int)<(n.s.length:Int))=True:=eq_true (by omega)
   have hr2:vR v k=false:=by rw[hr,←hal];simp[Ag,h1]
   simp (maxSteps:=400000) only[↓aI,aJ,BEq.rfl,seval,hQ,hg,zi,hlt,e1,hr2]
  have e1:((200:Int)<(n.s.length:Int))=False:=eq_false (by omega)
  by_cases h2:n.name.length≤200
  rotate_left 1
  ·have e2:((200:Int)<(n.name.length:Int))=True:=eq_true (by omega)
   have hr2:vR v k=false:=by rw[hr,←hal];simp[Ag,h2]
   simp (maxSteps:=400000) only[↓aI,aJ,BEq.rfl,seval,hQ,hg,zi,hlt,e1,e2,hr2]
  have e2:((200:Int)<(n.name.length:Int))=False:=eq_false (by omega)
  simp (maxSteps:=400000) only[↓aI,aJ,BEq.rfl,seval,hQ,hg,zi,hlt,e1,e2]
  refine⟨⟨by omega,by omega⟩,m-1,by omega,i+1,by omega,?_,by simp⟩
  rw[←hal];simp[Ag,h1,h2]
 ·have hlt:((i:Int)<(v.length:Int))=False:=eq_false (by omega)
  have hr2:vR v k=bK v:=by
   rw[hr,←hal,List.drop_eq_nil_of_le h];rfl
  simp (maxSteps:=400000) only[↓aI,aJ,BEq.rfl,seval,hQ,hlt,↓qi,hr2]
  exact hsm
theorem Rc(v:Vl)(k:Int)(hk:0≤k∧k≤1000000)(hs:v.length≤4611686018427387904)(htx:∀n∈v,n.s.length≤4611686018427387904∧n.name.length≤4611686018427387904):av Tryz.prog 8 [ak v,.int .i64 k] [] (.bool (vR v k.toNat)) []:=by
 have e:k=(k.toNat:Int):=by omega
 rw[e]
 exact T9 v k.toNat (by omega) hs htx
def Ah:fu:=λargs objs K=>match args with
 | [a0,.int .i64 k]=>jF ak a0 (HK.mk:HK λv=>(0≤k∧k≤1000000)∧(v.length≤4611686018427387904)∧(∀n∈v,n.s.length≤4611686018427387904∧n.name.length≤4611686018427387904)∧K (.bool (vR v k.toNat)) objs 0)
 | _=>False
theorem Rf:aQ Tryz.prog 8 (Ah):=by
 intro args objs K h
 unfold Ah at h
 split at h
 ·rename_i a0 k
  obtain⟨v,rfl,h1,h2,h3,hk⟩:=h
  exact⟨_,_,_,.pure _ rfl (Rc v k h1 h2 h3),hk⟩
 ·exact h.elim
end Lp
namespace Lp
open Go
open List (append_nil mem_append)
def Rd(P:Program)(t:TypeId){α:Type}(enc:α→PV)(good:α→Prop):Prop:=
 ∀{H:Type}(eh:TypeId×Value→H) (w:World) (fuel:Nat) (cs:List Value) (x:DataW H×List MemPlace),DataW.trod eh P w 0 (λ_=>true) true fuel t cs=some x→
  (∀n∈DataW.weights P t x.1,n≤reachBytes)→∃a:α,good a∧a_ (bQ w (λ_=>True)) (enc a).cells cs
variable {P:Program}
theorem qj{R:PV→Value→Prop}{p:PV}{v:Value}(h:R p v):a_ R [p] [v]:=
 ⟨rfl,λi q u h1 h2=>by
  cases i with
  | zero=>simp at h1 h2;subst h1;subst h2;exact h
  | succ i=>simp at h1⟩
theorem Rd.int {t:TypeId}{k:IntKind}(ht:P.underlying t=some (.int k)):Rd P t (.int k) (FW k):=by
 intro H eh w fuel cs x h _
 obtain⟨n,rfl,rfl,hw⟩:=DataW.trod_int ht h
 refine⟨n,?_,qj (.int k n)⟩
 simp only[Lit.wf,Bool.and_eq_true,decide_eq_true_eq]at hw
 cases k<;>simp only[IntKind.min,IntKind.max,IntKind.signed,IntKind.bits,FW]at hw ⊢<;>first | exact⟨by simpa using hw.1,by simpa using hw.2⟩ | (simp at hw;omega)
theorem Rd.bool {t:TypeId}(ht:P.underlying t=some .bool):Rd P t PV.bool (λ_=>True):=by
 intro H eh w fuel cs x h _
 obtain⟨b,rfl,rfl⟩:=DataW.trod_bool ht h
 exact⟨b,trivial,qj (.bool b)⟩
theorem Rd.str {t:TypeId}(ht:P.underlying t=some .string):Rd P t PV.str (λs=>s.length≤reachBytes):=by
 intro H eh w fuel cs x h hw
 obtain⟨s,rfl,rfl,_⟩:=DataW.trod_string ht h
 refine⟨s.data.toList,hw _ ?_,qj (Ht w _ s)⟩
 rw[DataW.weights];simp
theorem Rd.slice {t e:TypeId}{α:Type}[Inhabited α]{enc:α→PV}{good:α→Prop}{sz:Nat}(ht:P.underlying t=some (.slice e))(he:Rd P e enc good)(hsz:P.cellsOf e=sz)(hpos:sz≠0)(hc:∀a,(enc a).cells.length=sz) :
  Rd P t (λl:List α=>.sl sz (l.map enc) none) (λl=>l.length*P.bytesOf e≤reachBytes∧∀a∈l,good a):=by
 intro H eh w fuel cs x h hw
 rcases Go.Deep.open_slice ht h with ⟨rfl,rfl⟩ | ⟨a,len,cap,m,n,D,Pl,rfl,hb,hl,hm,hmm,rfl,hx⟩
 ·exact⟨[],by simp,qj (.slnil _ _ (by simp))⟩
 ·simp only[if_true]at hmm
  subst hmm
  have hwt:∀i,i<len→∀n∈DataW.weights P e (D i),n≤reachBytes:=by
   intro i hi n hn
   refine hw n ?_
   rw[DataW.weights,ht]
   simp only[List.mem_cons,mem_append]
   right;left
   have key:∀(l:List (DataW H)) d,d∈l→n∈DataW.weights P e d→n∈DataW.weightsAll P e l:=by
    intro l
    induction l with
    | nil=>intro d hd;cases hd
    | cons y ys ih=>
     intro d hd hn
     rw[DataW.weightsAll,mem_append]
     rcases List.mem_cons.1 hd with rfl | hd
     ·exact .inl hn
     ·exact .inr (ih d hd hn)
   exact key _ (D i) (List.mem_map.2 ⟨i,List.mem_range.2 hi,rfl⟩) hn
  have hlen:(len:Nat)*P.bytesOf e≤reachBytes:=by
   have:=hw ((((List.range len).map D).length+((List.range (m-len)).map λj=>D (len+j)).length)*P.bytesOf e) (by rw[DataW.weights,ht];exact List.mem_cons_self)
   simp only[List.length_map,List.length_range]at this
   exact Nat.le_trans (Nat.mul_le_mul_right _ (by omega)) this
  obtain⟨f,hf⟩:∃f:Nat→α×List Value,∀i,i<len→good (f i).1∧w.cells? 0 (a.add (i*P.cellsOf e)) (P.cellsOf e)=some (f i).2∧a_ (bQ w (λ_=>True)) (enc (f i).1).cells (f i).2:=by
   have hex:∀i,i<len→∃y:α×List Value,good y.1∧w.cells? 0 (a.add (i*P.cellsOf e)) (P.cellsOf e)=some y.2∧a_ (bQ w (λ_=>True)) (enc y.1).cells y.2:=by
    intro i hi
    obtain⟨cs',h1,h2⟩:=hx i (by omega)
    obtain⟨y,g1,g2⟩:=he eh w n cs' _ h2 (hwt i hi)
    exact⟨(y,cs'),g1,h1,g2⟩
   exact Go.Deep.choose_lt hex
  rcases Nat.eq_zero_or_pos len with h0 | h0
  ·subst h0
   exact⟨[],by simp,qj (.Cy _ _ (by simp) a m hm)⟩
  have hspot:a.spot=none:=by
   obtain⟨_,h2,h3⟩:=hf 0 h0
   obtain⟨_,g1,g2⟩:=World.cells?_some h2
   have:=g2 0 (by omega)
   rw[List.getElem?_eq_getElem (by omega)]at this
   have:=World.cell?_spot this
   simpa[Addr.add] using this
  obtain⟨b,off,spot⟩:=a
  simp only at hspot
  subst hspot
  have hcells:∀i,i<len→∀j,j<sz→w.cell? ⟨b,off+i*sz+j,none⟩=(f i).2[j]?:=by
   intro i hi j hj
   obtain⟨_,h2,_⟩:=hf i hi
   obtain⟨_,_,g2⟩:=World.cells?_some h2
   have:=g2 j (by omega)
   rw[hsz,add_lit,add_lit]at this
   exact this
  have hget:∀(i:Nat) (x:PV),(((List.range len).map λi=>(f i).1).map enc)[i]?=some x→i<len∧x=enc (f i).1:=by
   intro i x hx
   have hi:i<len:=by
    have:=(List.getElem?_eq_some_iff.1 hx).1
    simpa using this
   rw[List.getElem?_map,List.getElem?_map,List.getElem?_range hi]at hx
   simp only[Option.map_some,Option.some.injEq]at hx
   exact⟨hi,hx.symm⟩
  have hL:(((List.range len).map λi=>(f i).1).map enc).length=len:=by simp
  refine⟨(List.range len).map λi=>(f i).1,⟨by simpa using hlen,λy hy=>?_⟩,qj ?_⟩
  ·obtain⟨i,hi,rfl⟩:=List.mem_map.1 hy
   exact (hf i (List.mem_range.1 hi)).1
  ·have:bQ w (λ_=>True) (.sl sz (((List.range len).map λi=>(f i).1).map enc) none) (.slice (some ⟨b,off,none⟩) (((List.range len).map λi=>(f i).1).map enc).length m):=by
     refine .sl sz _ none (by simp) b off m (λi j=>(f i).2.getD j undef) (λ_=>⟨trivial,?_⟩) (by rw[hL];exact hl) hm (λi x hx=>?_) (λi x j p hx hp=>?_) (λi x j p hx hp=>?_)
     ·have:=hcells 0 h0 0 (by omega)
      obtain⟨_,h2,_⟩:=hf 0 h0
      obtain⟨_,g1,_⟩:=World.cells?_some h2
      rw[List.getElem?_eq_getElem (by omega)]at this
      unfold World.cell? at this
      simp only at this
      cases hb':w.heap[b]? with
      | none=>rw[hb']at this;simp at this
      | some o=>exact (Array.getElem?_eq_some_iff.1 hb').1
     ·obtain⟨_,rfl⟩:=hget i x hx
      exact hc _
     ·obtain⟨hi,rfl⟩:=hget i x hx
      have hj:j<sz:=by rw[←hc (f i).1];exact (List.getElem?_eq_some_iff.1 hp).1
      rw[hcells i hi j hj]
      obtain⟨_,h2,_⟩:=hf i hi
      obtain⟨_,g1,_⟩:=World.cells?_some h2
      rw[List.getD_eq_getElem?_getD,List.getElem?_eq_getElem (by omega)]
      rfl
     ·obtain⟨hi,rfl⟩:=hget i x hx
      have hj:j<sz:=by rw[←hc (f i).1];exact (List.getElem?_eq_some_iff.1 hp).1
      obtain⟨_,h2,h3⟩:=hf i hi
      obtain⟨_,g1,_⟩:=World.cells?_some h2
      exact h3.2 j p _ hp (by rw[List.getD_eq_getElem?_getD,List.getElem?_eq_getElem (by omega)];rfl)
   rw[hL]at this
   exact this
theorem rX{H:Type}{n:Nat}:∀(ts:List TypeId) (ds:List (DataW H)) (i:Nat) (t:TypeId) (d:DataW H),ts[i]?=some t→ds[i]?=some d→n∈DataW.weights P t d→n∈DataW.weightsEach P ts ds
 | [],_,i,t,d,h,_,_=>by simp at h
 | _::_,[],i,t,d,_,h,_=>by simp at h
 | t'::ts,d'::ds,i,t,d,h1,h2,hn=>by
  rw[DataW.weightsEach,mem_append]
  cases i with
  | zero=>simp at h1 h2;subst h1;subst h2;exact .inl hn
  | succ i=>exact .inr (rX ts ds i t d (by simpa using h1) (by simpa using h2) hn)
theorem qU{H:Type}{eh:TypeId×Value→H}{w:World}{fuel:Nat}{t:TypeId}{fs:Array Field}{cs:List Value}{x:DataW H×List MemPlace}(ht:P.underlying t=some (.struct fs))
  (h:DataW.trod eh P w 0 (λ_=>true) true fuel t cs=some x) (hw:∀n∈DataW.weights P t x.1,n≤reachBytes) :
  cs.length=P.cellsOf t∧∀(i off:Nat) (e:TypeId),(fs.toList.map λf=>(f.offset,f.type))[i]?=some (off,e)→∃n y,DataW.trod eh P w 0 (λ_=>true) true n e ((cs.drop off).take (P.cellsOf e))=some y∧(∀m∈DataW.weights P e y.1,m≤reachBytes):=by
 obtain⟨xs,n,_,rfl,hl,hlen,hf⟩:=DataW.trod_struct ht h
 refine⟨hl,λi off e he=>?_⟩
 rw[List.getElem?_map]at he
 cases hfi:fs.toList[i]? with
 | none=>rw[hfi]at he;simp at he
 | some f=>
  rw[hfi]at he
  simp only[Option.map_some,Option.some.injEq,Prod.mk.injEq]at he
  obtain⟨rfl,rfl⟩:=he
  have aax:fs[i]?=some f:=by simpa using hfi
  have hi:i<xs.length:=by rw[hlen];exact (Array.getElem?_eq_some_iff.1 aax).1
  have h1:=hf i f aax
  rw[List.getElem?_eq_getElem hi]at h1
  refine⟨n,xs[i],h1,λm hm=>hw m ?_⟩
  rw[DataW.weights,ht]
  exact rX _ _ i f.type xs[i].1 (by rw[List.getElem?_map,hfi];rfl) (by rw[List.getElem?_map,List.getElem?_eq_getElem hi];rfl) hm
theorem wG{H:Type}{eh:TypeId×Value→H}(hl:laidOutB P=true){W W':World}(hb:∀b,b<W.heap.size→W'.heap[b]?=W.heap[b]?) :
  ∀(ts:List TypeId) (vs:List Value) (ds:List (DataW H)) (ps:List MemPlace),(∀t∈ts,P.readableRec t=true∧t<P.types.size)→DataW.TrodAll eh P W 0 (λ_=>true) true ts vs ds ps→
   DataW.TrodAll eh P W' 0 (λb=>decide (b<W.heap.size)) true ts vs ds ps
 | [],[],[],ps,_,h=>h
 | t::ts,v::vs,d::ds,ps,hr,⟨p,q,h1,h2,h3⟩=>by
  have hlt:∀x∈p,x.block<W.heap.size:=by obtain⟨m,hm⟩:=h1;exact DataW.trod_lt m _ _ _ hm
  refine⟨p,q,Go.WideElems.Trod_stays hl (hr t (by simp)).1 (hr t (by simp)).2 h1 (λx hx=>?_) (λx hx=>by simpa using hlt x hx),wG hl hb ts vs ds q (λt ht=>hr t (by simp[ht])) h2,h3⟩
  cases x with
  | cell b o=>exact World.cell?_of_block (w:=W) (hb b (hlt _ hx))
  | map b=>exact hb b (hlt _ hx)
 | [],_::_,_,_,_,h=>h.elim
 | [],[],_::_,_,_,h=>h.elim
 | _::_,[],_,_,_,h=>h.elim
 | _::_,_::_,[],_,_,h=>h.elim
theorem T_{C:Checked}{H:Type}{enc:TypeId×Value→H}{f:FuncId}{fn:Func}{s:ChangeSpec}{tb:TypeId}
  (hlaid:laidOutB C.prog=true) (hr:∀t∈fn.params.toList,C.prog.readableRec t=true∧t<C.prog.types.size)
  (hres:fn.resultTypes.toList=[tb]) (hsz:fn.resultTypes.size=1) (hb:C.prog.underlying tb=some .bool)
  (hvars:s.vars=[]) (hpl:s.plain.varTypes C.prog=[]) (hs:∀ds:List (DataW H),ds.length=fn.params.toList.length→s.fn H ds={ results:=[.lit (.bool true)],args:=ds })
  (hread:∀(W:World) (base:Nat) (args:List Value) (ds:List (DataW H)) (ps:List MemPlace),(∀(j:Nat) t v,fn.params[j]?=some t→args[j]?=some v→Value.okWide C.prog W .any base t v)→DataW.TrodAll enc C.prog W 0 (λ_=>true) true fn.params.toList args ds ps→(∀n∈DataW.weightsEach C.prog fn.params.toList ds,n≤reachBytes)→
   ∃YL,a_ (bQ W (λ_=>True)) YL args∧av C.prog f YL [] (.bool true) [])
  {W:World}{base:Nat}{args:Array Value}{ds gs:List (DataW H)}{before:List MemPlace}(hg:kV.holds W.heap)
  (hval:∀(j:Nat) t v,fn.params[j]?=some t→args[j]?=some v→Value.okWide C.prog W .any base t v) (hW:DataW.Whole enc C.prog fn.params.toList s.vars false W args.toList ds gs before)
  (hsize:(DataW.weightsEach C.prog (fn.params.toList++s.plain.varTypes C.prog) (ds++gs)).all (·≤reachBytes)=true) :
  Calls C.prog f args W λe W'=>∃v,e=.returned v∧s.post enc C.prog fn false true false false W args v W':=by
 have hW':=hW
 obtain⟨p,q,hA,hV,rfl,hfz,hnd⟩:=hW
 rw[hvars]at hV
 obtain⟨rfl,rfl⟩:=Go.ChangeShapes.trodVars_none hV
 have hlen:ds.length=fn.params.toList.length:=by
  have:∀(ts:List TypeId) (vs:List Value) (ds:List (DataW H)) (ps:List MemPlace),DataW.TrodAll enc C.prog W 0 (λ_=>true) true ts vs ds ps→ds.length=ts.length:=by
   intro ts
   induction ts with
   | nil=>intro vs ds ps h;cases vs<;>cases ds<;>simp[DataW.TrodAll]at h ⊢
   | cons t ts ih=>
    intro vs ds ps h
    cases vs<;>cases ds<;>simp[DataW.TrodAll]at h ⊢
    obtain⟨_,_,_,h2,_⟩:=h
    exact ih _ _ _ h2
  exact this _ _ _ _ hA
 rw[hpl,append_nil,append_nil,List.all_eq_true]at hsize
 obtain⟨YL,hrep,hspec⟩:=hread W base args.toList ds p (λj t v h1 h2=>hval j t v h1 (by simpa using h2)) hA (λn hn=>by simpa using hsize n hn)
 have hargs:a_ (aL W (aV (λ_=>True) [] (λ_=>none)) [] (λ_=>none)) YL args.toList:=
  ⟨hrep.1,λi p v a b=>.aF ((hrep.2 i p v a b).nT λ_ _ _=>⟨trivial,dO _ _⟩)⟩
 have hc:=hspec.2 W (λ_=>none) args.toList (λ_=>True) ⟨hg,λ_ _=>trivial⟩ (uW _ _ _ _) hargs
 refine Calls.mono hc λe W' ⟨v,aj,he,_,hv,hheap,hsize',hsm⟩=>?_
 subst he
 have hv':=hv.bool
 subst hv'
 have hkeep:∀b,b<W.heap.size→W'.heap[b]?=W.heap[b]?:=λb hb=>hheap b hb (dO _ _)
 refine⟨_,rfl,ds,[],p++[],[],p,[],hW',?_,?_,?_,?_,λh=>by cases h⟩
 ·rw[append_nil,hs ds hlen,hres,hsz]
  exact Go.ChangeShapes.trodAll_mk1 (Go.RowKit.shut_bool hb true)
 ·rw[append_nil,hs ds hlen]
  exact wG hlaid hkeep _ _ _ _ hr hA
 ·rw[hvars,append_nil,hs ds hlen];rfl
 ·refine⟨hsm.1,hsm.2,λi hi=>?_⟩
  rw[hkeep i hi]
  split<;>simp_all
theorem XG{C:Checked}{os:Os}{H:Type}{enc:TypeId×Value→H}{f:FuncId}{fn:Func}{s:ChangeSpec}{tb:TypeId}{dom:List PathCond}{laid:List (String×DataW Unit)}
  (own:ownKnob C.prog.godebug=none) (started:os.Started) (noInit:C.prog.inits.idxOf? f=none) (hfn:C.prog.funcs[f]?=some fn)
  (witness:∃(w:World) (tape:Tape) (i:Input),w.os=os∧(w.forCall tape i).Shaped C.prog∧i.vars=[]∧Input.okWide C.prog (w.forCall tape i) .any w.heap.size f i∧
   (OpenSpec.ofChange s).preRow enc C.prog fn dom false laid (w.forCall tape i).memory i.args∧({}:Assume).holds C.prog (lone (Frame.enter C.prog f i.args .normal) [] (w.forCall tape i)))
  (hlaid:laidOutB C.prog=true) (hr:∀t∈fn.params.toList,C.prog.readableRec t=true∧t<C.prog.types.size)
  (hres:fn.resultTypes.toList=[tb]) (hsz:fn.resultTypes.size=1) (hb:C.prog.underlying tb=some .bool)
  (hvars:s.vars=[]) (hpl:s.plain.varTypes C.prog=[]) (hs:∀ds:List (DataW H),ds.length=fn.params.toList.length→s.fn H ds={ results:=[.lit (.bool true)],args:=ds })
  (hread:∀(W:World) (base:Nat) (args:List Value) (ds:List (DataW H)) (ps:List MemPlace),(∀(j:Nat) t v,fn.params[j]?=some t→args[j]?=some v→Value.okWide C.prog W .any base t v)→DataW.TrodAll enc C.prog W 0 (λ_=>true) true fn.params.toList args ds ps→(∀n∈DataW.weightsEach C.prog fn.params.toList ds,n≤reachBytes)→
   ∃YL,a_ (bQ W (λ_=>True)) YL args∧av C.prog f YL [] (.bool true) [])
  (hg:∀W:World,laidMetH C.prog laid W→kV.holds W.heap) :
  ReturnsInHanded {} C os f .any ((OpenSpec.ofChange s).preRow enc C.prog fn dom false laid) (s.post enc C.prog fn false true false false):=by
 refine returnsInHanded_of_row (C:=C) (s:=OpenSpec.ofChange s) (F:=λ_ _=>default) own started noInit hfn witness ?_
 intro W base args ds gs before hval hW _ _ hsize hL _ _
 exact T_ hlaid hr hres hsz hb hvars hpl hs hread (hg W hL) hval hW hsize
end Lp
namespace Lp
open Go
open List (getElem_zip length_zip)
variable {P:Program}{D:TypeId→ay}{T:Know}
def Know.use (T:Know)(n:Nat):Know:={ T with nx:=n,top:=false }
def IE(n:Nat):Env:=λ_ _ V=>∀w0,V w0→w0.nx≤n
theorem r9.use {n:Nat}(h:iP P T.fn)(hy:T.Y=λ_ _ _=>False)(hg:∀g cap ys,T.gives g cap ys→Gives P g cap ys)(he:∀g cap ys,T.ge g cap ys→n_ P g cap ys)(hb:T.bb=false)(hgb:∀g bargs ys,T.gb g bargs ys→dZ P g bargs ys)(hfa:∀f args objs K,T.fa f args objs K→iD P f args objs K:=by exact λ_ _ _ _ h=>h.elim):r9 P none (IE n) (T.use n):=
 ⟨h,λ_ _ _ _=>by
  have h':(T.use n).Y=λ_ _ _=>False:=hy
  rw[h'];exact EP.none,λ_ _ _ hE w0 hw=>hE w0 hw,(λ_ _ e=>by cases e),hg,he,λ_ _ _ _=>U0.none hb,hgb,hfa⟩
def YM(t:Nat)(r:PV)(ai:List Obj)(e:Exit)(S:St):Prop:=
 (e=.normal∨e=.ret)∧S.tmps.getD t .dead=r∧S.objs=ai
theorem KX{tm:Array Value}{P:Program}{w w':World}:∀(rs:List ResultVar) (vs:List Value),(Dp tm rs).run P w=.ok vs w'→vs.length=rs.length
 | [],vs,h=>by
  simp only[Dp,Sem.run_pure]at h
  cases h;rfl
 | r::rs,vs,h=>by
  obtain⟨v,w1,_,h⟩:=run_bind_ok h
  obtain⟨vs',w2,h2,h⟩:=run_bind_ok h
  simp only[Sem.run_pure]at h
  cases h
  simp[KX rs vs' h2]
theorem CR.kN {f:FuncId}{fn:Func}{c:Code}{C:LC}{args:List PV}{r:PV}{objs ai:List Obj}{t n:Nat}(hD:∀t,eP P t (D t))(hT:r9 P none (IE objs.length) T)(hm:P.follows .mixedOrders=true)
  (hf:P.funcs[f]?=some fn) (hname:(fn.name== "runtime.NumGoroutine")=false) (hb:fn.body=some c) (hn:fn.ntmps=n) (hr:fn.results=#[.tmp t]) (hC:strip C=comp c) (hlen:ai.length=objs.length)
  (h:gY P D T C (YM t r ai) ⟨(aU args n).tmps,objs⟩):CR P f args objs r ai:=by
 refine⟨⟨fn,hf,hname,by rw[hb];rfl⟩,hlen,λbase ah w0 tmps blk a w vs R hargs=>?_⟩
 have hpw:PW P none (IE objs.length) c (YM t r ai) ⟨(aU args n).tmps,objs⟩:=j3 hD hm C _ _ _ c _ _ hT hC h
 have hpp:∀b,ah b→b<w.heap.size∧aH objs blk b:=λb hb=>⟨Nat.lt_of_lt_of_le (R.pr b hb) R.gr,λk o h1 h2 h3=>R.objs.np k o b h1 h2 h3 hb⟩
 have hz:∀x∈tmps.zip a.tmps.toList,aL w (aV base objs blk) objs blk x.1 x.2:=by
  intro x hx
  obtain⟨i,hi,rfl⟩:=List.mem_iff_getElem.1 hx
  have hi':i<tmps.length∧i<a.tmps.toList.length:=by
   rw[length_zip]at hi
   omega
  rw[getElem_zip]
  have:=R.tm i tmps[i] (List.getElem?_eq_getElem hi'.1)
  have e:a.tmps.getD i undef=a.tmps.toList[i]:=by
   rw[Array.getD_eq_getD_getElem?,Array.getElem?_eq_getElem (by simpa using hi'.2)];simp
  rw[e]at this
  exact this
 have R2:Rel base (λb=>b<w.heap.size∧aH objs blk b) ⟨w.heap,tmps.zip a.tmps.toList++w0.xs,objs.length,w⟩ ⟨(aU args n).tmps,objs⟩ blk { tmps:=(⟨vs⟩:Array Value)++Array.replicate (n-(⟨vs⟩:Array Value).size) undef,defers:=[] } w:=by
  have hl:=hargs.1
  have hext:∀x∈tmps.zip a.tmps.toList++w0.xs,aL w (aV base objs blk) objs blk x.1 x.2:=λx hx=>by
   rcases List.mem_append.1 hx with hx | hx
   ·exact hz x hx
   ·exact R.ext x hx
  refine⟨.nil _ _,?_,λt p hp=>?_,⟨R.objs.ob,R.objs.xR,λk o g h1 h2 h3 hp=>hp.2 k o h1 h2 h3⟩,λb hb=>hb.1,λ_ _=>rfl,Nat.le_refl _,λb hn=>?_,hext,λx hx=>qM (hext x hx),.refl w,⟨R.jM,λb hb=>hpp b (R.gl.2 b hb)⟩⟩
  ·simp[aU,hl]
  ·simp only[aU]at hp
   rw[List.getElem?_append]at hp
   split at hp
   ·rename_i ht
    obtain⟨v,hv⟩:∃v,vs[t]?=some v:=⟨vs[t]'(by omega),List.getElem?_eq_getElem (by omega)⟩
    have hg:((⟨vs⟩:Array Value)++Array.replicate (n-(⟨vs⟩:Array Value).size) undef).getD t undef=v:=by
     rw[Array.getD_eq_getD_getElem?,Array.getElem?_append,if_pos (by simpa using (by omega:t<vs.length))]
     simp[hv]
    rw[hg]
    exact hargs.2 t p v hp hv
   ·rw[List.getElem?_replicate]at hp
    split at hp
    ·cases hp;exact .dead _
    ·cases hp
  ·rcases Nat.lt_or_ge b w.heap.size with h1 | h1
   ·refine R.pb b λhp=>hn (hpp b hp)
   ·exact R.bs b (Nat.le_trans R.gr h1)
 have hw:=hpw base _ (λx=>(⟨w.heap,tmps.zip a.tmps.toList++w0.xs,objs.length,w⟩:Wz)=x) (by rintro z rfl;exact Nat.le_refl _) _ _ _ ⟨_,rfl,R2⟩
 rw[←callsIn_wide (n:=0)]
 refine callsIn_of_wp_marks hf hb trivial ?_
 rw[hn]
 refine wpIn_mono hw ?_
 rintro e a' w' ⟨S',aj,⟨he,ho,kW⟩,_,rfl,R'⟩
 have key:∀w',Rel base (λb=>b<w.heap.size∧aH objs blk b) ⟨w.heap,tmps.zip a.tmps.toList++w0.xs,objs.length,w⟩ S' aj { a' with defers:=[] } w'→
     ∃v,(results fn a'.tmps).run P w'=.ok v w'∧(∃v' aj,Ending.returned v=.returned v'∧Rel base ah w0 ⟨tmps,ai⟩ aj a w'∧aL w' (aV base ai aj) ai aj r v'):=by
  intro w' R'
  have hx:=R'.ev (.tmp t)
  change aL w' _ _ aj (S'.tmps.getD t .dead) (a'.tmps.getD t undef) at hx
  rw[ho,kW]at hx
  refine⟨_,results_tmp hr _ _ _,_,aj,rfl,?_,hx⟩
  have hpr:∀b,b<w.heap.size∧aH objs blk b→w'.heap[b]?=w.heap[b]?:=λb hb=>R'.fr b hb
  obtain⟨Ds,e1,e2,e3⟩:=R.mM
  have ob:=R'.objs
  have ex:=R'.ext
  rw[kW]at ob ex
  refine⟨⟨Ds,e1,e2,λb hb=>?_⟩,R.BP,λt p hp=>?_,⟨ob.ob,ob.xR,λk o g h1 h2 h3 hp=>ob.np k o g h1 h2 h3 (hpp g hp)⟩,R.pr,λb hb=>?_,Nat.le_trans R.gr R'.gr,R.pb,λx hx=>ex x (List.mem_append_right _ hx),R.wP,R.sm.trans R'.sm,R.gl⟩
  ·obtain⟨h1,h2,h3⟩:=e3 b hb
   have hpb:b<w.heap.size∧aH objs blk b:=⟨(Array.getElem?_eq_some_iff.1 h1).1,h2.2⟩
   exact⟨by rw[hpr b hpb];exact h1,⟨h2.1,λk o g1 g2 g3=>ob.np k o b g1 g2 g3 hpb⟩,h3⟩
  ·refine ex (p,a.tmps.getD t undef) (List.mem_append_left _ ?_)
   have hlt:t<tmps.length:=(List.getElem?_eq_some_iff.1 hp).1
   have htz:t<a.tmps.size:=by rw[R.BP];exact hlt
   refine List.mem_iff_getElem.2 ⟨t,by rw[length_zip,Array.length_toList];exact Nat.lt_min.2 ⟨hlt,htz⟩,?_⟩
   rw[getElem_zip]
   have e:a.tmps.getD t undef=a.tmps.toList[t]'(by simpa using htz):=by
    rw[Array.getD_eq_getD_getElem?,Array.getElem?_eq_getElem htz];simp
   rw[e,(List.getElem?_eq_some_iff.1 hp).2]
  ·rw[hpr b (hpp b hb)];exact R.fr b hb
 rcases he with rfl | rfl<;>exact jk _ _ R' key
theorem aX.use {f:FuncId}{n t:Nat}{C:LC}{args:List PV}{r:PV}{objs ai:List Obj}(h:aX P f n [.tmp t] C)(hD:∀t,eP P t (D t))(hT:iP P T.fn)(hy:T.Y=λ_ _ _=>False)
  (hg:∀g cap ys,T.gives g cap ys→Gives P g cap ys) (hm:P.follows .mixedOrders=true) (hlen:ai.length=objs.length)
  (hw:gY P D (T.use objs.length) C (YM t r ai) ⟨(aU args n).tmps,objs⟩) (he:∀g cap ys,T.ge g cap ys→n_ P g cap ys:=by exact λ_ _ _ h=>h) (hb:T.bb=false:=by exact rfl) (hgb:∀g bargs ys,T.gb g bargs ys→dZ P g bargs ys:=by exact λ_ _ _ h=>h.elim) (hfa:∀f args objs K,T.fa f args objs K→iD P f args objs K:=by exact λ_ _ _ _ h=>h.elim):CR P f args objs r ai:=by
 obtain⟨fn,c,h1,h2,h3,h4,h5,h6⟩:=h
 exact CR.kN hD (.use hT hy hg he hb hgb hfa) hm h1 h2 h3 h4 h5 h6 hlen hw
def VX(D:TypeId→ay)(rs:List ResultVar)(K:KT)(e:Exit)(S:St):Prop:=
 (e=.normal∨e=.ret)∧ku D S rs λps=>K (gK ps) S.objs 2
theorem iD.kN {f:FuncId}{fn:Func}{c:Code}{C:LC}{args:List PV}{objs:List Obj}{K:KT}{rs:List ResultVar}{n:Nat}(hD:∀t,eP P t (D t))(hT:r9 P none (IE objs.length) T)(hm:P.follows .mixedOrders=true)
  (hf:P.funcs[f]?=some fn) (hname:(fn.name== "runtime.NumGoroutine")=false) (hb:fn.body=some c) (hn:fn.ntmps=n) (hr:fn.results=rs.toArray) (hl:rs.length≤1) (hC:strip C=comp c)
  (h:gY P D T C (VX D rs K) ⟨(aU args n).tmps,objs⟩):iD P f args objs K:=by
 refine⟨⟨fn,hf,hname,by rw[hb];rfl⟩,λbase ah w0 tmps blk a w vs R hargs=>?_⟩
 have hpw:PW P none (IE objs.length) c (VX D rs K) ⟨(aU args n).tmps,objs⟩:=j3 hD hm C _ _ _ c _ _ hT hC h
 have hpp:∀b,ah b→b<w.heap.size∧aH objs blk b:=λb hb=>⟨Nat.lt_of_lt_of_le (R.pr b hb) R.gr,λk o h1 h2 h3=>R.objs.np k o b h1 h2 h3 hb⟩
 have hz:∀x∈tmps.zip a.tmps.toList,aL w (aV base objs blk) objs blk x.1 x.2:=by
  intro x hx
  obtain⟨i,hi,rfl⟩:=List.mem_iff_getElem.1 hx
  have hi':i<tmps.length∧i<a.tmps.toList.length:=by
   rw[length_zip]at hi
   omega
  rw[getElem_zip]
  have:=R.tm i tmps[i] (List.getElem?_eq_getElem hi'.1)
  have e:a.tmps.getD i undef=a.tmps.toList[i]:=by
   rw[Array.getD_eq_getD_getElem?,Array.getElem?_eq_getElem (by simpa using hi'.2)];simp
  rw[e]at this
  exact this
 have R2:Rel base (λb=>b<w.heap.size∧aH objs blk b) ⟨w.heap,tmps.zip a.tmps.toList++w0.xs,objs.length,w⟩ ⟨(aU args n).tmps,objs⟩ blk { tmps:=(⟨vs⟩:Array Value)++Array.replicate (n-(⟨vs⟩:Array Value).size) undef,defers:=[] } w:=by
  have hl:=hargs.1
  have hext:∀x∈tmps.zip a.tmps.toList++w0.xs,aL w (aV base objs blk) objs blk x.1 x.2:=λx hx=>by
   rcases List.mem_append.1 hx with hx | hx
   ·exact hz x hx
   ·exact R.ext x hx
  refine⟨.nil _ _,?_,λt p hp=>?_,⟨R.objs.ob,R.objs.xR,λk o g h1 h2 h3 hp=>hp.2 k o h1 h2 h3⟩,λb hb=>hb.1,λ_ _=>rfl,Nat.le_refl _,λb hn=>?_,hext,λx hx=>qM (hext x hx),.refl w,⟨R.jM,λb hb=>hpp b (R.gl.2 b hb)⟩⟩
  ·simp[aU,hl]
  ·simp only[aU]at hp
   rw[List.getElem?_append]at hp
   split at hp
   ·rename_i ht
    obtain⟨v,hv⟩:∃v,vs[t]?=some v:=⟨vs[t]'(by omega),List.getElem?_eq_getElem (by omega)⟩
    have hg:((⟨vs⟩:Array Value)++Array.replicate (n-(⟨vs⟩:Array Value).size) undef).getD t undef=v:=by
     rw[Array.getD_eq_getD_getElem?,Array.getElem?_append,if_pos (by simpa using (by omega:t<vs.length))]
     simp[hv]
    rw[hg]
    exact hargs.2 t p v hp hv
   ·rw[List.getElem?_replicate]at hp
    split at hp
    ·cases hp;exact .dead _
    ·cases hp
  ·rcases Nat.lt_or_ge b w.heap.size with h1 | h1
   ·refine R.pb b λhp=>hn (hpp b hp)
   ·exact R.bs b (Nat.le_trans R.gr h1)
 have hw:=hpw base _ (λx=>(⟨w.heap,tmps.zip a.tmps.toList++w0.xs,objs.length,w⟩:Wz)=x) (by rintro z rfl;exact Nat.le_refl _) _ _ _ ⟨_,rfl,R2⟩
 rw[←callsIn_wide (n:=0)]
 refine callsIn_of_wp_marks hf hb trivial ?_
 rw[hn]
 refine wpIn_mono hw ?_
 rintro e a' w' ⟨S',aj,⟨he,hout⟩,_,rfl,R'⟩
 have key:∀w',Rel base (λb=>b<w.heap.size∧aH objs blk b) ⟨w.heap,tmps.zip a.tmps.toList++w0.xs,objs.length,w⟩ S' aj { a' with defers:=[] } w'→
     ∃v,(results fn a'.tmps).run P w'=.ok v w'∧(∃v' r ai aj,Ending.returned v=.returned v'∧K r ai 2∧Rel base ah w0 ⟨tmps,ai⟩ aj a w'∧aL w' (aV base ai aj) ai aj r v'):=by
  intro w' R'
  obtain⟨vs',ps,h1,h2,h3⟩:=tu hD R' rs _ hout
  have hx:aL w' (aV base S'.objs aj) S'.objs aj (gK ps) (ET vs'):=by
   obtain⟨q1,q2⟩:=h3
   have hsz:ps.length≤1:=by
    have:=KX _ _ h1
    omega
   match ps,vs',q1,q2,hsz with
   | [],[],_,_,_=>exact .aF (.bP [] [] rfl λi p v hp _=>by simp at hp)
   | [p],[v],_,q2,_=>exact q2 0 p v rfl rfl
  refine⟨_,tC hr (by omega) h1,_,gK ps,S'.objs,aj,rfl,h2,?_,hx⟩
  have hpr:∀b,b<w.heap.size∧aH objs blk b→w'.heap[b]?=w.heap[b]?:=λb hb=>R'.fr b hb
  obtain⟨Ds,e1,e2,e3⟩:=R.mM
  have ob:=R'.objs
  have ex:=R'.ext
  refine⟨⟨Ds,e1,e2,λb hb=>?_⟩,R.BP,λt p hp=>?_,⟨ob.ob,ob.xR,λk o g h1 h2 h3 hp=>ob.np k o g h1 h2 h3 (hpp g hp)⟩,R.pr,λb hb=>?_,Nat.le_trans R.gr R'.gr,R.pb,λx hx=>ex x (List.mem_append_right _ hx),R.wP,R.sm.trans R'.sm,R.gl⟩
  ·obtain⟨h1,h2,h3⟩:=e3 b hb
   have hpb:b<w.heap.size∧aH objs blk b:=⟨(Array.getElem?_eq_some_iff.1 h1).1,h2.2⟩
   exact⟨by rw[hpr b hpb];exact h1,⟨h2.1,λk o g1 g2 g3=>ob.np k o b g1 g2 g3 hpb⟩,h3⟩
  ·refine ex (p,a.tmps.getD t undef) (List.mem_append_left _ ?_)
   have hlt:t<tmps.length:=(List.getElem?_eq_some_iff.1 hp).1
   have htz:t<a.tmps.size:=by rw[R.BP];exact hlt
   refine List.mem_iff_getElem.2 ⟨t,by rw[length_zip,Array.length_toList];exact Nat.lt_min.2 ⟨hlt,htz⟩,?_⟩
   rw[getElem_zip]
   have e:a.tmps.getD t undef=a.tmps.toList[t]'(by simpa using htz):=by
    rw[Array.getD_eq_getD_getElem?,Array.getElem?_eq_getElem htz];simp
   rw[e,(List.getElem?_eq_some_iff.1 hp).2]
  ·rw[hpr b (hpp b hb)];exact R.fr b hb
 rcases he with rfl | rfl<;>exact jk _ _ R' key
theorem aX.aay {f:FuncId}{n:Nat}{rs:List ResultVar}{C:LC}{args:List PV}{objs:List Obj}{K:KT}(h:aX P f n rs C)(hD:∀t,eP P t (D t))(hT:r9 P none (IE objs.length) T)(hm:P.follows .mixedOrders=true)(hl:rs.length≤1)
  (hw:gY P D T C (VX D rs K) ⟨(aU args n).tmps,objs⟩):iD P f args objs K:=by
 obtain⟨fn,c,h1,h2,h3,h4,h5,h6⟩:=h
 exact iD.kN hD hT hm h1 h2 h3 h4 h5 hl h6 hw
end Lp
namespace Lp
open Go
variable {P:Program}{D:TypeId→ay}{T:Know}
def eY(p q:PV):Prop:=∀(w:World) (ok:Nat→Prop) (v:Value),bQ w ok p v→bQ w ok q v
theorem eY.refl (p:PV):eY p p:=λ_ _ _ h=>h
theorem ig(sz sz':Nat):eY (.sl sz [] (some true)) (.sl sz' [] none):=by
 intro w ok v h
 cases h with
 | slnil _ _ _=>exact .slnil sz' none (by decide)
 | Cy _ _ hq=>exact absurd rfl hq
 | sl _ _ _ hq=>exact absurd rfl hq
theorem eY.agg {ps qs:List PV}(hl:ps.length=qs.length)(h:∀(i:Nat) (p q:PV),ps[i]?=some p→qs[i]?=some q→eY p q):eY (.agg ps) (.agg qs):=by
 intro w ok v hr
 cases hr with
 | agg _ vs hl' hh=>
  refine .agg _ _ (by omega) λi q u hq hu=>?_
  have hi:i<ps.length:=by rw[hl];exact (List.getElem?_eq_some_iff.1 hq).1
  exact h i _ q (List.getElem?_eq_getElem hi) hq w ok u (hh i _ u (List.getElem?_eq_getElem hi) hu)
theorem eY.bP {ps qs:List PV}(hl:ps.length=qs.length)(h:∀(i:Nat) (p q:PV),ps[i]?=some p→qs[i]?=some q→eY p q):eY (.bP ps) (.bP qs):=by
 intro w ok v hr
 cases hr with
 | bP _ vs hl' hh=>
  refine .bP _ _ (by omega) λi q u hq hu=>?_
  have hi:i<ps.length:=by rw[hl];exact (List.getElem?_eq_some_iff.1 hq).1
  exact h i _ q (List.getElem?_eq_getElem hi) hq w ok u (hh i _ u (List.getElem?_eq_getElem hi) hu)
theorem Ai{f:List PV→PV}(hf:f=PV.agg∨f=PV.bP){a b c d:PV}(h1:eY a c)(h2:eY b d):eY (f [a,b]) (f [c,d]):=by
 have key:∀(i:Nat) (p q:PV),[a,b][i]?=some p→[c,d][i]?=some q→eY p q:=by
  intro i p q hp hq
  match i with
  | 0=>cases hp;cases hq;exact h1
  | 1=>cases hp;cases hq;exact h2
  | _+2=>simp at hp
 rcases hf with rfl | rfl
 ·exact .agg rfl key
 ·exact .bP rfl key
theorem av.res {f:FuncId}{args:List PV}{objs:List Obj}{r r':PV}(h:av P f args objs r [])(ht:eY r r'):av P f args objs r' []:=by
 refine⟨h.1,λw blk vs base hb R ha=>(h.2 w blk vs base hb R ha).mono ?_⟩
 rintro e w' ⟨v,aj,h1,h2,h3,h4⟩
 exact⟨v,aj,h1,h2,.aF (ht _ _ _ (oh h3)),h4⟩
theorem av.arg {f:FuncId}{args args':List PV}{r:PV}{ai:List Obj}(h:av P f args [] r ai)(hl:args'.length=args.length)(ht:∀(i:Nat) (p q:PV),args'[i]?=some p→args[i]?=some q→eY p q):av P f args' [] r ai:=by
 refine⟨h.1,λw blk vs base hb R ha=>h.2 w blk vs base hb R ⟨by rw[←hl];exact ha.1,λi q v hq hv=>?_⟩⟩
 have hi:i<args'.length:=by rw[hl];exact (List.getElem?_eq_some_iff.1 hq).1
 exact .aF (ht i _ q (List.getElem?_eq_getElem hi) hq _ _ _ (oh (ha.2 i _ v (List.getElem?_eq_getElem hi) hv)))
structure aaz (d t:Nat) (o':Obj) (S:St):Prop where
 h:Ns d t o' .ret S
theorem VY{d t n:Nat}{o':Obj}{l:List (Nat×PV)}{ob:List Obj}{k ver:Nat}{o:Obj}(h1:(dR n l).getD t .dead=.aW k ver)(h2:ob[k]?=some o)(h3:o.live=true)(h4:o.ver=ver)(h5:{ eO d (k+1) ob o with ver:=0 }=o')(h6:bg [o']):aaz d t o' ⟨dR n l,ob⟩:=
 ⟨.inr rfl,_,k,ver,o,Weak.refl _ _,h1,h2,h3,h4,h5,h6⟩
theorem aX.PE {f:FuncId}{n t:Nat}{C:LC}{args:List PV}{o':Obj}(h:aX P f n [.tmp t] C)(d:Nat)(hD:∀t,eP P t (D t))(hT:r9 P none vT T)(hm:P.follows .mixedOrders=true)
  (hw:∀Q:Exit→St→Prop,(∀l ob,Q .ret ⟨dR n l,ob⟩=aaz d t o' ⟨dR n l,ob⟩)→gY P D T C Q (aU args n)):av P f args [] (.aW 0 0) [o']:=
 h.made d hD hT hm (hw _ λl ob=>propext ⟨λh=>⟨h⟩,λh=>h.h⟩)
structure ab2 (D:TypeId→ay) (d:Nat) (rs:List ResultVar) (qs:List PV) (o':Obj) (S:St):Prop where
 h:abC D d rs qs o' .ret S
@[congr] theorem XH{s t:TypeId}{x x':PV}{objs ai:List Obj}{K:KT}(h:x=x')(ho:objs=ai):oQ D s t x objs K=oQ D s t x' ai K:=by rw[h,ho]
@[congr] theorem Rh{x x':PV}{objs ai:List Obj}{K:KT}(h:x=x')(ho:objs=ai):bX x objs K=bX x' ai K:=by rw[h,ho]
end Lp
namespace Lp
open Go Go.Proofs
theorem XI:PV.uR (.agg ⟨[.int .i64 0,.int .i64 0,.string ⟨⟨[]⟩⟩,.string ⟨⟨[]⟩⟩,.bool false,.int .i64 0]⟩)=aM ⟨0,0,[],[],false,0⟩:=rfl
theorem XJ(a:Nd)(k m:Int)(x y:List UInt8)(g:Bool)(e:Int):(aM a).putCells 0 [.int .i64 k,.int .i64 m,.str x,.str y,.bool g,.int .i64 e]=aM ⟨k,m,x,y,g,e⟩:=rfl
theorem aaA(n:Nd)(r:Vl):(∀y,y∈aM n::r.map aM→y.cells.length=6∧y.cells.all PV.storable=true)=True:=by
 have:=tQ (enc:=aM) (sz:=6) (λ_=>rfl) (λ_=>rfl) (n::r)
 rwa[List.map_cons]at this
def IG(l:List Vl)(ver:Nat):Obj:=⟨23,1,l.map ak,true,ver⟩
def VZ(l:List (List UInt8))(ver:Nat):Obj:=⟨9,1,l.map .str,true,ver⟩
theorem Ri(d n:Nat)(O:List Obj)(t:TypeId)(sz:Nat)(l:List Vl)(ver:Nat):eO d n O ⟨t,sz,l.map ak,true,ver⟩=⟨t,sz,l.map ak,true,ver⟩:=by
 have:(l.map ak).map (PV.bI (fB d n O))=l.map ak:=by
  rw[List.map_map]
  exact List.map_congr_left λx _=>rfl
 simp only[eO,this]
theorem Rj(d n:Nat)(O:List Obj)(t:TypeId)(sz:Nat)(l:List (List UInt8))(ver:Nat):eO d n O ⟨t,sz,l.map .str,true,ver⟩=⟨t,sz,l.map .str,true,ver⟩:=by
 have:(l.map PV.str).map (PV.bI (fB d n O))=l.map PV.str:=by
  rw[List.map_map]
  exact List.map_congr_left λx _=>rfl
 simp only[eO,this]
theorem GH(l:List Vl)(ver:Nat):bg [IG l ver]:=by
 intro o ho x hx c hc
 simp only[List.mem_singleton]at ho;subst ho
 obtain⟨y,_,rfl⟩:=List.mem_map.1 hx
 simp only[ak,PV.cells,List.mem_singleton]at hc
 subst hc;rfl
theorem GI(l:List (List UInt8))(ver:Nat):bg [VZ l ver]:=by
 intro o ho x hx c hc
 simp only[List.mem_singleton]at ho;subst ho
 obtain⟨y,_,rfl⟩:=List.mem_map.1 hx
 simp only[PV.cells,List.mem_singleton]at hc
 subst hc;rfl
end Lp
namespace Lp
open Go Go.Proofs
theorem Rk(a b:Vl)(ha:a.length≤1000000)(hb:b.length≤1000000):av Tryz.prog 16 [ak a,ak b] [] (.bool (decide (a=b))) []:=by
 refine yJ.cZ (T:=bH Tryz.prog []) 0 hD (ax au) bM (by decide) λQ hQ=>?_
 by_cases hl:a.length=b.length
 rotate_left 1
 ·have hl':((a.length:Int)=(b.length:Int))=False:=eq_false (by omega)
  have hr:decide (a=b)=false:=decide_eq_false λh=>hl (by rw[h])
  (conv=>arg 4;cbv);simp (maxSteps:=400000) only[↓aI,aJ,BEq.rfl,seval,hQ,hl',hr]
 have hl':((a.length:Int)=(b.length:Int))=True:=eq_true (by omega)
 (conv=>arg 4;cbv);simp (maxSteps:=400000) only[↓aI,aJ,BEq.rfl,seval,hQ,hl']
 refine bA (λm S=>∃i:Nat,i+m=a.length∧(∀j,j<i→a[j]?=b[j]?)∧S=⟨dR 26 [(0,ak a),(1,ak b),(5,.int .i64 i)],[]⟩) a.length ⟨0,by omega,λj h=>absurd h (by omega),?_⟩ ?_
 ·simp only[dX,keepR,Nat.reduceAdd,tK,Nat.reduceBEq,List.map_nil]
  rfl
 rintro m S ⟨i,him,hj,rfl⟩
 have zi:(0≤(i:Int))=True:=eq_true (by omega)
 rcases Nat.lt_or_ge i a.length with h | h
 rotate_left 1
 ·have hlt:((i:Int)<(a.length:Int))=False:=eq_false (by omega)
  have hab:a=b:=List.ext_getElem? λj=>by
   by_cases hji:j<i
   ·exact hj j hji
   ·rw[List.getElem?_eq_none (by omega),List.getElem?_eq_none (by omega)]
  have hr:decide (a=b)=true:=decide_eq_true hab
  simp (maxSteps:=400000) only[↓aI,aJ,BEq.rfl,seval,hQ,hlt,hr]
 have hlt:((i:Int)<(a.length:Int))=True:=eq_true (by omega)
 have ga:=List.getElem?_eq_getElem h
 have gb:b[i]?=some (b[i]'(by omega)):=List.getElem?_eq_getElem (by omega)
 generalize a[i]=x at ga
 generalize b[i]'(by omega)=y at gb
 by_cases hxy:x=y
 ·have hxy':(x=y)=True:=eq_true hxy
  simp (maxSteps:=400000) only[↓aI,aJ,BEq.rfl,seval,hQ,hlt,zi,ga,gb,hxy']
  refine⟨⟨by omega,by omega⟩,m-1,by omega,i+1,by omega,?_,by simp⟩
  intro j hji
  by_cases hjj:j=i
  ·subst hjj;rw[ga,gb,hxy]
  ·exact hj j (by omega)
 ·have hxy':(x=y)=False:=eq_false hxy
  have hr:decide (a=b)=false:=decide_eq_false λh=>hxy (by rw[h,gb]at ga;exact (Option.some.inj ga).symm)
  simp (maxSteps:=400000) only[↓aI,aJ,BEq.rfl,seval,hQ,hlt,zi,ga,gb,hxy',hr]
def vC:fu:=λargs objs K=>match args with
 | [a0,a1]=>jF ak a0 (HK.mk:HK λa=>jF ak a1 (HK.mk:HK λb=>(a.length≤1000000)∧(b.length≤1000000)∧K (.bool (decide (a=b))) objs 0))
 | _=>False
theorem DK:aQ Tryz.prog 16 (vC):=by
 intro args objs K h
 unfold vC at h
 split at h
 ·rename_i a0 a1
  obtain⟨a,rfl,b,rfl,h1,h2,hk⟩:=h
  exact⟨_,_,_,.pure _ rfl (Rk a b h1 h2),hk⟩
 ·exact h.elim
end Lp
namespace Lp
open Go Go.Proofs
theorem nmP(n:Nd)(nm:List UInt8):(aM n).putCells 2 [.str nm]=aM { n with name:=nm }:=rfl
theorem aaB(n:Nd):(aM n).cells.length=6:=rfl
theorem DL(l:List Vl){i:Nat}{v:Vl}(h:l[i]?=some v):(l.take (i+1)).flatten=(l.take i).flatten++v:=by
 rw[List.take_add_one,h];simp
theorem Aj(l:List Vl){i:Nat}{v:Vl}(h:l[i]?=some v):(l.take i).flatten.length+v.length≤l.flatten.length:=by
 have e:l.flatten.length=((l.take (i+1)).flatten++(l.drop (i+1)).flatten).length:=by rw[←List.flatten_append,List.take_append_drop]
 rw[e,List.take_add_one,h];simp
theorem YN:(PV.uR (Value.agg { toList:=[Value.int IntKind.i64 0,Value.int IntKind.i64 0,Value.string { data:={ toList:=[] } },Value.string { data:={ toList:=[] } },Value.bool false,Value.int IntKind.i64 0] })).cells.length=6:=rfl
theorem YO:(PV.uR (Value.agg { toList:=[Value.int IntKind.i64 0,Value.int IntKind.i64 0,Value.string { data:={ toList:=[] } },Value.string { data:={ toList:=[] } },Value.bool false,Value.int IntKind.i64 0] })).cells.all PV.storable=true:=rfl
theorem Rl(n:Nat)(objs:List Obj)(v:Vl):(v.map aM).map (PV.bI (kr 0 n objs))=v.map aM:=by
 rw[List.map_map]
 exact List.map_congr_left λx _=>rfl
theorem Rm(v:Vl)(ver:Nat)(t:TypeId)(rest:List Obj):fB 1 0 (⟨t,6,v.map aM,true,ver⟩::rest) (.aW 0 ver)=ak v:=by
 simp only[fB,Nat.not_lt_zero,if_false,kr,List.getElem?_cons_zero,Nat.le_refl,decide_true,Bool.true_and,beq_self_eq_true,if_true,Rl]
 rfl
end Lp
namespace Lp
open Go Go.Proofs
end Lp
namespace Lp
open Go Go.Proofs
theorem KY(a b:Vl)(ha:a.length≤1000000)(hb:b.length≤1000000):av Tryz.prog 87 [ak a,ak b] [] (.bool (decide (a=b))) []:=by
 refine kQ.cZ (T:=bH Tryz.prog []) 0 hD (ax au) bM (by decide) λQ hQ=>?_
 by_cases hl:a.length=b.length
 rotate_left 1
 ·have hl':((a.length:Int)=(b.length:Int))=False:=eq_false (by omega)
  have hr:decide (a=b)=false:=decide_eq_false λh=>hl (by rw[h])
  (conv=>arg 4;cbv);simp (maxSteps:=400000) only[↓aI,aJ,BEq.rfl,seval,hQ,hl',hr]
 have hl':((a.length:Int)=(b.length:Int))=True:=eq_true (by omega)
 (conv=>arg 4;cbv);simp (maxSteps:=400000) only[↓aI,aJ,BEq.rfl,seval,hQ,hl']
 refine bA (λm S=>∃i:Nat,i+m=a.length∧(∀j,j<i→a[j]?=b[j]?)∧S=⟨dR 26 [(0,ak a),(1,ak b),(12,.int .i64 a.length),(13,.int .i64 i)],[]⟩) a.length ⟨0,by omega,λj h=>absurd h (by omega),?_⟩ ?_
 ·simp only[dX,keepR,Nat.reduceAdd,tK,Nat.reduceBEq,List.map_nil]
  rfl
 rintro m S ⟨i,him,hj,rfl⟩
 have zi:(0≤(i:Int))=True:=eq_true (by omega)
 rcases Nat.lt_or_ge i a.length with h | h
 rotate_left 1
 ·have hlt:((i:Int)<(a.length:Int))=False:=eq_false (by omega)
  have hab:a=b:=List.ext_getElem? λj=>by
   by_cases hji:j<i
   ·exact hj j hji
   ·rw[List.getElem?_eq_none (by omega),List.getElem?_eq_none (by omega)]
  have hr:decide (a=b)=true:=decide_eq_true hab
  simp (maxSteps:=400000) only[↓aI,aJ,BEq.rfl,seval,hQ,hlt,hr]
 have hlt:((i:Int)<(a.length:Int))=True:=eq_true (by omega)
 have ga:=List.getElem?_eq_getElem h
 have gb:b[i]?=some (b[i]'(by omega)):=List.getElem?_eq_getElem (by omega)
 generalize a[i]=x at ga
 generalize b[i]'(by omega)=y at gb
 by_cases hxy:x=y
 ·have hxy':(x=y)=True:=eq_true hxy
  simp (maxSteps:=400000) only[↓aI,aJ,BEq.rfl,seval,hQ,hlt,zi,ga,gb,hxy']
  refine⟨⟨by omega,by omega⟩,m-1,by omega,i+1,by omega,?_,by simp⟩
  intro j hji
  by_cases hjj:j=i
  ·subst hjj;rw[ga,gb,hxy]
  ·exact hj j (by omega)
 ·have hxy':(x=y)=False:=eq_false hxy
  have hr:decide (a=b)=false:=decide_eq_false λh=>hxy (by rw[h,gb]at ga;exact (Option.some.inj ga).symm)
  simp (maxSteps:=400000) only[↓aI,aJ,BEq.rfl,seval,hQ,hlt,zi,ga,gb,hxy',hr]
def vD:fu:=λargs objs K=>match args with
 | [a0,a1]=>jF ak a0 (HK.mk:HK λa=>jF ak a1 (HK.mk:HK λb=>(a.length≤1000000)∧(b.length≤1000000)∧K (.bool (decide (a=b))) objs 0))
 | _=>False
theorem II:aQ Tryz.prog 87 (vD):=by
 intro args objs K h
 unfold vD at h
 split at h
 ·rename_i a0 a1
  obtain⟨a,rfl,b,rfl,h1,h2,hk⟩:=h
  exact⟨_,_,_,.pure _ rfl (KY a b h1 h2),hk⟩
 ·exact h.elim
theorem IJ(a b:Vl)(ha:a.length≤1000000)(hb:b.length≤1000000):av Tryz.prog 65 [ak a,ak b] [] (.bool (decide (a=b))) []:=by
 refine Nv.cZ (T:=bH Tryz.prog [(87,vD)]) 0 hD (ax (af II au)) bM (by decide) λQ hQ=>?_
 (conv=>arg 4;cbv);simp (maxSteps:=400000) only[↓aI,aJ,BEq.rfl,seval,hQ,↓vD]
 exact⟨ha,hb⟩
def cu:fu:=λargs objs K=>match args with
 | [a0,a1]=>jF ak a0 (HK.mk:HK λa=>jF ak a1 (HK.mk:HK λb=>(a.length≤1000000)∧(b.length≤1000000)∧K (.bool (decide (a=b))) objs 0))
 | _=>False
theorem pJ:aQ Tryz.prog 65 (cu):=by
 intro args objs K h
 unfold cu at h
 split at h
 ·rename_i a0 a1
  obtain⟨a,rfl,b,rfl,h1,h2,hk⟩:=h
  exact⟨_,_,_,.pure _ rfl (IJ a b h1 h2),hk⟩
 ·exact h.elim
theorem Sn(l:List (FuncId×fu))(n:Nat):(((bH Tryz.prog l).inner n).fn=jR l)∧(((bH Tryz.prog l).inner n).Nb.fn=jR l)∧(((bH Tryz.prog l).inner n).nx=n):=⟨rfl,rfl,rfl⟩
theorem qV(v:Vl)(hr:Rt v)(hl:v.length≤1000000):∃ps:List Vl,aD v=ps.map gX∧(∀p∈ps,Rt (gX p))∧ps.length≤v.length∧(aS v=ps.map nameOf∨(∃n r,v=n::r∧n.kind≠6))∧Gives Tryz.prog 107 [.addr (ak v)] (ps.map rowOf):=by
 obtain⟨n,r,rfl,_⟩:=b_ hr.name hr.one.ne
 obtain⟨h1,h2,ps,h3,h4,h5,h6,h7⟩:=hr.parts
 obtain⟨q1,q2⟩:=dI h3
 have h8:=dS _ _ _ h3
 have h9:=jB _ _ _ h3
 refine⟨ps,by simp only[aD,q1],h7,by simp only[List.length_cons];omega,?_,tZ (n::r) n r ps rfl (by omega) h2 h3⟩
 by_cases hk:n.kind=6
 ·left;simp only[aS,if_pos hk,q2]
 ·right;exact⟨n,r,rfl,hk⟩
theorem vE(ps:List Vl):∀y∈ps.map rowOf,y.length=2:=by
 intro y hy
 obtain⟨p,_,rfl⟩:=List.mem_map.1 hy
 rfl
theorem vF{ps:List Vl}{i:Nat}{args:List PV}(h:(ps.map rowOf)[i]?=some args):∃p,ps[i]?=some p∧args=[.str (nameOf p),ak (gX p)]:=by
 rw[List.getElem?_map]at h
 cases hx:ps[i]? with
 | none=>rw[hx]at h;simp at h
 | some p=>rw[hx]at h;exact⟨p,rfl,by simpa[rowOf] using h.symm⟩
def jH:fu:=λargs objs K=>match args with
 | [a0]=>jF ak a0 (HK.mk:HK λv=>K (.fn 107 [] [.addr (ak v)]) objs 0)
 | _=>False
theorem o8:aQ Tryz.prog 80 (jH):=by
 intro args objs K h
 unfold jH at h
 split at h
 ·rename_i a0
  obtain⟨v,rfl,hk⟩:=h
  exact⟨_,_,_,.pure _ rfl (GA v),hk⟩
 ·exact h.elim
end Lp
namespace Lp
open Go Go.Lib
open List (length_cons length_drop length_take)
def Ua(b0:Nat):Bool:=
 decide (b0<128) || (firstT b0 % 8==1 && (decide (b0<194) || decide (245≤b0))) || (firstT b0 % 8==2 && accLo (firstT b0 / 16)==128 && accHi (firstT b0 / 16)==191 && decide (194≤b0) && decide (b0<224)) ||
  (firstT b0 % 8==3 && accLo (firstT b0 / 16)==(if b0=224 then 160 else 128) && accHi (firstT b0 / 16)==(if b0=237 then 159 else 191) && decide (224≤b0) && decide (b0<240)) ||
  (firstT b0 % 8==4 && accLo (firstT b0 / 16)==(if b0=240 then 144 else 128) && accHi (firstT b0 / 16)==(if b0=244 then 143 else 191) && decide (240≤b0) && decide (b0<245))
theorem NS:(List.range 256).all Ua=true:=by decide
theorem NT(b0:Nat)(h:b0<256)(h':128≤b0):(firstT b0 % 8=1∧(b0<194∨245≤b0))∨(firstT b0 % 8=2∧accLo (firstT b0 / 16)=128∧accHi (firstT b0 / 16)=191∧194≤b0∧b0<224)∨
  (firstT b0 % 8=3∧accLo (firstT b0 / 16)=(if b0=224 then 160 else 128)∧accHi (firstT b0 / 16)=(if b0=237 then 159 else 191)∧224≤b0∧b0<240)∨
  (firstT b0 % 8=4∧accLo (firstT b0 / 16)=(if b0=240 then 144 else 128)∧accHi (firstT b0 / 16)=(if b0=244 then 143 else 191)∧240≤b0∧b0<245):=by
 have:=List.all_eq_true.1 NS b0 (List.mem_range.2 h)
 simp only[Ua,Bool.or_eq_true,Bool.and_eq_true,decide_eq_true_eq,beq_iff_eq,and_assoc]at this
 rcases this with (((g | g) | g) | g) | g
 ·omega
 ·exact .inl g
 ·exact .inr (.inl g)
 ·exact .inr (.inr (.inl g))
 ·exact .inr (.inr (.inr g))
theorem Ub(c:UInt8)(t:List UInt8):utf (c::t)=(bU (c::t) !=0 && utf ((c::t).drop (bU (c::t)))):=by
 unfold utf
 rw[length_cons,Cn]
 simp only[List.isEmpty_cons,Bool.false_or]
 by_cases h:bU (c::t)=0
 ·simp[h]
 ·congr 1
  exact zI _ _ _ (by simp only[length_drop,length_cons];omega) (Nat.le_refl _)
theorem u8n(c:UInt8)(n:Nat)(h:n<256):c=UInt8.ofNat n↔c.toNat=n:=by
 constructor
 ·rintro rfl;simp[UInt8.toNat_ofNat'];omega
 ·intro e;rw[←e];simp
theorem NU(c:UInt8)(t:List UInt8)(h:128≤c.toNat) :
  checkN (t.length+1) (t.getD 0 0).toNat (t.getD 1 0).toNat (t.getD 2 0).toNat (firstT c.toNat % 8) (accLo (firstT c.toNat / 16)) (accHi (firstT c.toNat / 16))=
   if bU (c::t)=0 then none else some (bU (c::t)):=by
 have e1:(c<128)↔c.toNat<128:=UInt8.lt_iff_toNat_lt
 have e2:(194≤c)↔194≤c.toNat:=UInt8.le_iff_toNat_le
 have e3:(c<224)↔c.toNat<224:=UInt8.lt_iff_toNat_lt
 have e4:(224≤c)↔224≤c.toNat:=UInt8.le_iff_toNat_le
 have e5:(c<240)↔c.toNat<240:=UInt8.lt_iff_toNat_lt
 have e6:(240≤c)↔240≤c.toNat:=UInt8.le_iff_toNat_le
 have e7:(c<245)↔c.toNat<245:=UInt8.lt_iff_toNat_lt
 have e8:c=224↔c.toNat=224:=u8n c 224 (by decide)
 have e9:c=237↔c.toNat=237:=u8n c 237 (by decide)
 have ea:c=240↔c.toNat=240:=u8n c 240 (by decide)
 have eb:c=244↔c.toNat=244:=u8n c 244 (by decide)
 have hc:∀i,eT t i=true↔i<t.length∧128≤(t.getD i 0).toNat∧(t.getD i 0).toNat<192:=by
  intro i
  unfold eT
  cases hg:t[i]? with
  | none=>
   have:=List.getElem?_eq_none_iff.1 hg
   simp;omega
  | some d=>
   have hl:=(List.getElem?_eq_some_iff.1 hg).1
   have hd:t.getD i 0=d:=by simp[List.getD,hg]
   rw[hd]
   simp only[Bool.and_eq_true,decide_eq_true_eq]
   have x1:(128≤d)↔128≤d.toNat:=UInt8.le_iff_toNat_le
   have x2:(d<192)↔d.toNat<192:=UInt8.lt_iff_toNat_lt
   rw[x1,x2]
   exact⟨λg=>⟨hl,g⟩,λg=>g.2⟩
 have hh:t.headD 0=t.getD 0 0:=by cases t<;>rfl
 have f1:(t.getD 0 0<160)↔(t.getD 0 0).toNat<160:=UInt8.lt_iff_toNat_lt
 have f2:(160≤t.getD 0 0)↔160≤(t.getD 0 0).toNat:=UInt8.le_iff_toNat_le
 have f3:(t.getD 0 0<144)↔(t.getD 0 0).toNat<144:=UInt8.lt_iff_toNat_lt
 have f4:(144≤t.getD 0 0)↔144≤(t.getD 0 0).toNat:=UInt8.le_iff_toNat_le
 simp only[bU,e1,e2,e3,e4,e5,e6,e7,e8,e9,ea,eb,hc,hh,f1,f2,f3,f4]
 have hn:=c.toNat_lt
 generalize c.toNat=n at *
 generalize (t.getD 0 0).toNat=b1 at *
 generalize (t.getD 1 0).toNat=b2 at *
 generalize (t.getD 2 0).toNat=b3 at *
 generalize t.length=L at *
 clear e1 e2 e3 e4 e5 e6 e7 e8 e9 ea eb hc f1 f2 f3 f4 hh
 obtain⟨R,hR⟩:∃R,(if n<128 then 1 else if 194≤n∧n<224∧0<L∧128≤b1∧b1<192 then 2
  else if 224≤n∧n<240∧(0<L∧128≤b1∧b1<192)∧1<L∧128≤b2∧b2<192 then (if n=224∧b1<160∨n=237∧160≤b1 then 0 else 3)
  else if 240≤n∧n<245∧(0<L∧128≤b1∧b1<192)∧(1<L∧128≤b2∧b2<192)∧2<L∧128≤b3∧b3<192 then (if n=240∧b1<144∨n=244∧144≤b1 then 0 else 4) else 0)=R:=⟨_,rfl⟩
 rw[hR]
 rw[if_neg (by omega)]at hR
 rcases NT n hn h with ⟨k1,k2⟩ | ⟨k1,k2,k3,k4,k5⟩ | ⟨k1,k2,k3,k4,k5⟩ | ⟨k1,k2,k3,k4,k5⟩
 ·rw[k1]
  rw[if_neg (by omega),if_neg (by omega),if_neg (by omega)]at hR
  subst hR;rfl
 ·rw[k1,k2,k3]
  simp only[checkN,if_true]
  by_cases g:0<L∧128≤b1∧b1<192
  ·rw[if_pos ⟨k4,k5,g⟩]at hR
   subst hR
   rw[if_neg (by omega)];rfl
  ·rw[if_neg (by omega),if_neg (by omega),if_neg (by omega)]at hR
   subst hR
   rw[if_pos (by omega)];rfl
 ·rw[k1,k2,k3]
  simp only[checkN,Nat.reduceEqDiff,if_false,if_true]
  rw[if_neg (by omega)]at hR
  by_cases g:(0<L∧128≤b1∧b1<192)∧1<L∧128≤b2∧b2<192
  ·rw[if_pos ⟨k4,k5,g⟩]at hR
   by_cases g2:n=224∧b1<160∨n=237∧160≤b1
   ·rw[if_pos g2]at hR
    subst hR
    rw[if_pos (by split<;>split<;>omega)];rfl
   ·rw[if_neg g2]at hR
    subst hR
    rw[if_neg (by split<;>split<;>omega)];rfl
  ·rw[if_neg (λx=>g x.2.2),if_neg (by omega)]at hR
   subst hR
   rw[if_pos (by split<;>split<;>omega)];rfl
 ·rw[k1,k2,k3]
  simp only[checkN,Nat.reduceEqDiff,if_false,if_true]
  rw[if_neg (by omega),if_neg (by omega)]at hR
  by_cases g:(0<L∧128≤b1∧b1<192)∧(1<L∧128≤b2∧b2<192)∧2<L∧128≤b3∧b3<192
  ·rw[if_pos ⟨k4,k5,g⟩]at hR
   by_cases g2:n=240∧b1<144∨n=244∧144≤b1
   ·rw[if_pos g2]at hR
    subst hR
    rw[if_pos (by split<;>split<;>omega)];rfl
   ·rw[if_neg g2]at hR
    subst hR
    rw[if_neg (by split<;>split<;>omega)];rfl
  ·rw[if_neg (λx=>g x.2.2)]at hR
   subst hR
   rw[if_pos (by split<;>split<;>omega)];rfl
theorem xq:∀(k:Nat) (l:List UInt8),l.length≤k→validD l=utf l
 | _,[],_=>rfl
 | 0,_::_,h=>by simp at h
 | k+1,c::t,h=>by
  simp only[length_cons]at h
  rw[Ub]
  by_cases hc:c.toNat<128
  ·have hr:bU (c::t)=1:=by
     simp only[bU];rw[if_pos (UInt8.lt_iff_toNat_lt.2 hc)]
   rw[validD_cons c t hc,hr,xq k t (by omega)];simp
  ·rw[validD_lead _ (by simp) (by simpa using hc)]
   have e:=NU c t (by omega)
   simp only[List.getD_cons_zero,List.getD_cons_succ,length_cons]at e ⊢
   rw[e]
   by_cases h0:bU (c::t)=0
   ·rw[if_pos h0,h0];rfl
   ·rw[if_neg h0]
    have:((c::t).drop (bU (c::t))).length≤k:=by simp only[length_drop,length_cons];omega
    rw[show (bU (c::t) !=0)=true by simpa using h0,Bool.true_and]
    exact xq k _ this
theorem Rn(l:List UInt8):validD l=utf l:=xq _ l (Nat.le_refl _)
def kD(x:Nat):Bool:=decide (48≤x) && decide (x≤57)
theorem Bf(n b0 b1 b2 b3:Nat)(h:(decodeN n b0 b1 b2 b3).1<128):b0<128∧decodeN n b0 b1 b2 b3=(b0,1):=by
 unfold decodeN at *
 split at h
 ·rename_i h0;rw[if_pos h0];exact⟨h0,rfl⟩
 ·exfalso
  repeat' split at h
  all_goals (simp at h;try omega)
theorem Bg(n b0 b1 b2 b3:Nat)(h:b0<128):decodeN n b0 b1 b2 b3=(b0,1):=by unfold decodeN;rw[if_pos h]
theorem B_{x:Nat}(h:kD x=true):x<128:=by simp[kD]at h;omega
def Ca(l:List UInt8)(i:Nat):Prop:=∀j,i≤j→j<l.length→kD (l.getD j 0).toNat=true
theorem KZ(s:ByteArray):∀(f pos:Nat),s.data.toList.length-pos≤f→(idxFuncFrom kD false s f pos=-1↔Ca s.data.toList pos)
 | 0,pos,h=>by
  simp only[idxFuncFrom,true_iff]
  intro j h1 h2;omega
 | f+1,pos,h=>by
  unfold idxFuncFrom
  rw[size_eq]
  split
  ·rename_i hp
   rw[decode_N]
   generalize hd:decodeN _ _ _ _ _=d
   split
   ·rename_i hf
    have:¬ Ca s.data.toList pos:=λhg=>by
     have g:=hg pos (Nat.le_refl _) hp
     rw[Bg _ _ _ _ _ (B_ g)]at hd
     rw[←hd]at hf
     simp only at hf
     rw[g]at hf;cases hf
    simp only[this,iff_false];omega
   ·rename_i hf
    simp only[Bool.not_eq_false]at hf
    have hlt:=B_ hf
    rw[←hd]at hlt
    obtain⟨g1,g2⟩:=Bf _ _ _ _ _ hlt
    rw[g2]at hd
    subst hd
    rw[KZ s f (pos+1) (by omega)]
    constructor
    ·intro hh j h1 h2
     rcases Nat.eq_or_lt_of_le h1 with rfl | h1
     ·exact hf
     ·exact hh j h1 h2
    ·intro hh j h1 h2;exact hh j (by omega) h2
  ·rename_i hp
   simp only[true_iff]
   intro j h1 h2;omega
theorem DN(l:List UInt8)(h:(decodeLastL l).1<128):l≠[]∧(l.getD (l.length-1) 0).toNat<128∧decodeLastL l=((l.getD (l.length-1) 0).toNat,1):=by
 unfold decodeLastL at *
 split at h
 ·simp[Utf8.runeError]at h
 ·rename_i hne
  rw[if_neg hne]
  split at h
  ·rename_i h1;rw[if_pos h1];exact⟨hne,h1,rfl⟩
  ·rename_i h1
   exfalso
   simp only at h
   split at h
   ·rename_i h2
    rw[decodeL_N]at h h2
    obtain⟨g1,g2⟩:=Bf _ _ _ _ _ h
    rw[g2]at h2
    simp only[getD_dropU]at g1
    have:lastStart l+0=l.length-1:=by omega
    rw[this]at g1
    exact h1 g1
   ·simp[Utf8.runeError]at h
theorem GJ(s:ByteArray):∀(f i:Nat),i≤f→i≤s.data.toList.length→lastIdxFuncFrom kD false s f i=-1→∀j,j<i→kD (s.data.toList.getD j 0).toNat=true
 | 0,i,h,_,_,j,hj=>by omega
 | f+1,i,h,hi,hx,j,hj=>by
  unfold lastIdxFuncFrom at hx
  rw[if_pos (by omega)]at hx
  split at hx
  ·omega
  ·rename_i hf
   simp only[Bool.not_eq_false]at hf
   obtain⟨g0,g1,g2⟩:=DN _ (B_ hf)
   rw[g2]at hf hx
   have hl:(s.data.toList.take i).length=i:=by rw[length_take];omega
   rw[hl]at hf hx
   have e:(s.data.toList.take i).getD (i-1) 0=s.data.toList.getD (i-1) 0:=by
    simp only[List.getD,List.getElem?_take];rw[if_pos (by omega)]
   rw[e]at hf
   rcases Nat.lt_or_ge j (i-1) with h1 | h1
   ·exact GJ s f (i-1) (by omega) (by omega) hx j h1
   ·have:j=i-1:=by omega
    subst this;exact hf
theorem Uc(l:List UInt8):rZ l=true↔Ca l 0:=by
 unfold rZ Ca
 rw[List.all_eq_true]
 have key:∀c:UInt8,(decide (48≤c) && decide (c≤57))=kD c.toNat:=λc=>by
  have x1:(48≤c)↔48≤c.toNat:=UInt8.le_iff_toNat_le
  have x2:(c≤57)↔c.toNat≤57:=UInt8.le_iff_toNat_le
  simp only[kD,x1,x2]
 constructor
 ·intro h j _ hj
  rw[←key]
  have:l.getD j 0=l[j]:=by simp[List.getD,hj]
  rw[this]
  exact h _ (List.getElem_mem hj)
 ·intro h c hc
  obtain⟨j,hj,rfl⟩:=List.mem_iff_getElem.1 hc
  rw[key]
  have:l.getD j 0=l[j]:=by simp[List.getD,hj]
  rw[←this]
  exact h j (Nat.zero_le _) hj
theorem Bh(p:Nat→Bool)(truth:Bool)(s:ByteArray):∀(f i:Nat),i≤s.size→lastIdxFuncFrom p truth s f i=-1∨(0≤lastIdxFuncFrom p truth s f i∧lastIdxFuncFrom p truth s f i<i)
 | 0,_,_=>.inl rfl
 | f+1,i,hi=>by
  unfold lastIdxFuncFrom
  split
  ·rename_i h0
   have hk:=decodeLastL_width (s.data.toList.take i) (by rw[length_take,←size_eq];omega)
   rw[length_take,←size_eq,Nat.min_eq_left hi]at hk
   split
   ·exact .inr ⟨by omega,by omega⟩
   ·rcases Bh p truth s f (i-(decodeLastL (s.data.toList.take i)).2) (by omega) with h | ⟨h1,h2⟩
    ·exact .inl h
    ·exact .inr ⟨h1,by omega⟩
  ·exact .inl rfl
theorem NV(l:List UInt8):(trimF kD ⟨⟨l⟩⟩=⟨⟨[]⟩⟩)↔rZ l=true:=by
 have hi:=KZ ⟨⟨l⟩⟩ l.length 0 (by simp)
 rw[Uc,←(show (({ data:={ toList:=l } }:ByteArray).data.toList)=l from rfl),←hi]
 have hidx:idxFunc kD false ⟨⟨l⟩⟩=idxFuncFrom kD false ⟨⟨l⟩⟩ l.length 0:=rfl
 rw[←hidx]
 unfold trimF trimLeftF
 constructor
 ·intro h
  refine Classical.byContradiction λhne=>?_
  rw[if_neg hne]at h
  have hr:=idxFunc_range kD false ⟨⟨l⟩⟩
  obtain⟨r1,r2⟩:=hr.resolve_left hne
  rw[size_eq]at r2
  generalize hk:(idxFunc kD false ⟨⟨l⟩⟩).toNat=k at *
  have hkl:k<l.length:=by simp at r2;omega
  rw[extract_from]at h
  simp only at h
  have hnd:kD (l.getD k 0).toNat=false:=by
   have key:∀f pos,idxFuncFrom kD false ⟨⟨l⟩⟩ f pos≠-1→kD (Utf8.decode ⟨⟨l⟩⟩ (idxFuncFrom kD false ⟨⟨l⟩⟩ f pos).toNat).1=false:=by
    intro f
    induction f with
    | zero=>intro pos h;exact absurd rfl h
    | succ f ih=>
     intro pos h
     unfold idxFuncFrom at h ⊢
     split at h
     ·rename_i hp
      rw[if_pos hp]
      split at h
      ·rename_i hf;rw[if_pos hf];simpa using hf
      ·rename_i hf;rw[if_neg hf];exact ih _ h
     ·exact absurd rfl h
   have:=key _ _ hne
   rw[show (⟨⟨l⟩⟩:ByteArray).size=l.length from rfl,←hidx,hk,decode_N]at this
   cases hb:kD (l.getD k 0).toNat with
   | false=>rfl
   | true=>
    have hlow:=B_ hb
    rw[Bg _ _ _ _ _ hlow]at this
    simp only at this
    rw[hb]at this;cases this
  unfold trimRightF at h
  rw[extract_upto]at h
  have hlen:=congrArg (λb:ByteArray=>b.data.toList.length) h
  simp only[length_take,length_drop,List.length_nil]at hlen
  have hz:rightEndF kD ⟨(l.drop k).toArray⟩=0:=by omega
  unfold rightEndF at hz
  have hlt:=Bh kD false ⟨(l.drop k).toArray⟩ (l.drop k).length (l.drop k).length (by rw[size_eq];exact Nat.le_refl _)
  have hli:lastIdxFunc kD false ⟨(l.drop k).toArray⟩=lastIdxFuncFrom kD false ⟨(l.drop k).toArray⟩ (l.drop k).length (l.drop k).length:=rfl
  split at hz
  ·rename_i h0
   rw[hli]at h0 hz
   obtain⟨h1,h2⟩:=hlt.resolve_left (by omega)
   have h3:1≤(decodeGoB ((⟨(l.drop k).toArray⟩:ByteArray).extract (lastIdxFuncFrom kD false ⟨(l.drop k).toArray⟩ (l.drop k).length (l.drop k).length).toNat (⟨(l.drop k).toArray⟩:ByteArray).size)).2:=by
    unfold decodeGoB
    rw[if_neg]
    ·exact width_pos _ _
    ·rw[extract_from,size_eq]
     simp only[length_drop]at h2 ⊢
     omega
   omega
  ·rename_i h0
   rw[hli]at h0
   have h1:=hlt.resolve_right (by omega)
   have:=GJ ⟨(l.drop k).toArray⟩ _ _ (Nat.le_refl _) (Nat.le_refl _) h1 0 (by rw[length_drop];omega)
   simp only[getD_dropU]at this
   rw[Nat.add_zero,hnd]at this
   cases this
 ·intro h
  rw[if_pos h]
  rfl
theorem pK{α:Type}(p:α→Bool)(l:List α):(l.dropWhile p).length≤l.length:=(List.dropWhile_suffix p).length_le
theorem DR{α:Type}(p:α→Bool):∀l:List α,l.dropWhile p=l↔(∀x,l.head?=some x→p x=false)
 | []=>by simp
 | x::t=>by
  rw[List.dropWhile_cons]
  split
  ·rename_i h
   constructor
   ·intro e
    have:=congrArg List.length e
    have h2:=pK p t
    simp at this;omega
   ·intro g;rw[g x rfl]at h;cases h
  ·rename_i h;simpa using h
theorem NW(l:List UInt8)(c:UInt8):trimB l c=l↔l.head?≠some c∧l.getLast?≠some c:=by
 have h1:∀m:List UInt8,(m.dropWhile (·==c)=m)↔m.head?≠some c:=λm=>by
  rw[DR]
  constructor
  ·intro h e;simpa using h c e
  ·intro h x hx;rw[hx]at h;simpa using h
 unfold trimB trimLeftB
 have hlen:(trimRightB l c).length≤l.length:=by
  unfold trimRightB
  have:=pK (·==c) l.reverse
  simpa using this
 have hr:trimRightB l c=l↔l.getLast?≠some c:=by
  unfold trimRightB
  rw[List.reverse_eq_iff,h1,List.head?_reverse]
 constructor
 ·intro h
  have h2:=pK (·==c) (trimRightB l c)
  have h3:=congrArg List.length h
  have h4:trimRightB l c=l:=by
   unfold trimRightB at *
   have:=List.dropWhile_suffix (l:=l.reverse) (p:=(·==c))
   have e:=this.eq_of_length (by simp at *;omega)
   rw[e,List.reverse_reverse]
  rw[h4]at h
  exact⟨(h1 l).1 h,hr.1 h4⟩
 ·rintro⟨g1,g2⟩
  rw[hr.2 g2];exact (h1 l).2 g1
end Lp
namespace Go.Proofs
open Go.Shelf
def Tryz.K3:Go.Shelf.Ren:=⟨λ| 160=>124 | 232=>135 | 231=>134 | 227=>136 | 234=>138 | 233=>137 | 236=>140 | 235=>139 | 228=>156 | 271=>159 | 151=>158 | 197=>157 | 120=>169 | 152=>168 | 260=>167 | 137=>171 | 119=>172 | 224=>173 | 225=>174 | 217=>175 | 266=>176 | n=>n,λ| 9=>9 | 4=>4 | 3=>3 | 5=>5 | 117=>152 | 116=>151 | 0=>0 | 124=>155 | 21=>21 | 105=>171 | 46=>122 | 119=>118 | 139=>121 | 138=>120 | n=>n,λ| 3=>0 | 4=>1 | n=>n⟩
theorem Tryz.PG:Go.Proofs.Lays.n160 Tryz.prog Tryz.K3:={
 mixed:=by kernel_rfl
 f119:=Tryz.func172.trans (congrArg some (by kernel_rfl))
 f120:=Tryz.func169.trans (congrArg some (by kernel_rfl))
 f137:=Tryz.func171.trans (congrArg some (by kernel_rfl))
 f151:=Tryz.func158.trans (congrArg some (by kernel_rfl))
 f152:=Tryz.func168.trans (congrArg some (by kernel_rfl))
 f160:=Tryz.func124.trans (congrArg some (by kernel_rfl))
 f197:=Tryz.func157.trans (congrArg some (by kernel_rfl))
 f217:=Tryz.func175.trans (congrArg some (by kernel_rfl))
 f224:=Tryz.func173.trans (congrArg some (by kernel_rfl))
 f225:=Tryz.func174.trans (congrArg some (by kernel_rfl))
 f227:=Tryz.func136.trans (congrArg some (by kernel_rfl))
 f228:=Tryz.func156.trans (congrArg some (by kernel_rfl))
 f231:=Tryz.func134.trans (congrArg some (by kernel_rfl))
 f232:=Tryz.func135.trans (congrArg some (by kernel_rfl))
 f233:=Tryz.func137.trans (congrArg some (by kernel_rfl))
 f234:=Tryz.func138.trans (congrArg some (by kernel_rfl))
 f235:=Tryz.func139.trans (congrArg some (by kernel_rfl))
 f236:=Tryz.func140.trans (congrArg some (by kernel_rfl))
 f260:=Tryz.func167.trans (congrArg some (by kernel_rfl))
 f266:=Tryz.func176.trans (congrArg some (by kernel_rfl))
 f271:=Tryz.func159.trans (congrArg some (by kernel_rfl))
 t0:=Tryz.underlying0
 a0:=Tryz.isAgg0
 z0:=Tryz.sizeOf0
 v0:=Tryz.zeroValue0
 t3:=Tryz.underlying3
 a3:=Tryz.isAgg3
 z3:=Tryz.sizeOf3
 v3:=Tryz.zeroValue3
 t4:=Tryz.underlying4
 a4:=Tryz.isAgg4
 z4:=Tryz.sizeOf4
 v4:=Tryz.zeroValue4
 t5:=Tryz.underlying5
 a5:=Tryz.isAgg5
 z5:=Tryz.sizeOf5
 v5:=Tryz.zeroValue5
 t9:=Tryz.underlying9
 a9:=Tryz.isAgg9
 z9:=Tryz.sizeOf9
 v9:=Tryz.zeroValue9
 t21:=Tryz.underlying21
 a21:=Tryz.isAgg21
 z21:=Tryz.sizeOf21
 v21:=Tryz.zeroValue21
 t46:=Tryz.underlying122
 a46:=Tryz.isAgg122
 z46:=Tryz.sizeOf122
 v46:=Tryz.zeroValue122
 t105:=Tryz.underlying171
 a105:=Tryz.isAgg171
 z105:=Tryz.sizeOf171
 v105:=Tryz.zeroValue171
 t116:=Tryz.underlying151
 a116:=Tryz.isAgg151
 z116:=Tryz.sizeOf151
 t117:=Tryz.underlying152
 a117:=Tryz.isAgg152
 z117:=Tryz.sizeOf152
 v117:=Tryz.zeroValue152
 t119:=Tryz.underlying118
 a119:=Tryz.isAgg118
 z119:=Tryz.sizeOf118
 t124:=Tryz.underlying155
 a124:=Tryz.isAgg155
 z124:=Tryz.sizeOf155
 v124:=Tryz.zeroValue155
 t138:=Tryz.underlying120
 a138:=Tryz.isAgg120
 z138:=Tryz.sizeOf120
 v138:=Tryz.zeroValue120
 t139:=Tryz.underlying121
 a139:=Tryz.isAgg121
 z139:=Tryz.sizeOf121
 v139:=Tryz.zeroValue121
 g3:=by kernel_rfl
 g4:=by kernel_rfl }
def Tryz.K4:Go.Shelf.Ren:=⟨λ| 190=>114 | 125=>130 | 258=>129 | 128=>150 | 129=>151 | 302=>142 | 303=>143 | 304=>144 | 305=>145 | 306=>146 | 307=>147 | 308=>103 | 309=>148 | 310=>149 | 333=>160 | 329=>161 | 330=>162 | 334=>163 | 335=>164 | 336=>125 | 344=>170 | n=>n,λ| 31=>75 | 9=>9 | 3=>3 | 46=>122 | 0=>0 | 51=>164 | 53=>138 | 4=>4 | 183=>158 | 182=>157 | 131=>90 | 5=>5 | 218=>174 | 222=>178 | 228=>182 | 229=>183 | n=>n,λ| n=>n⟩
theorem Tryz.PI:Go.Proofs.Lays.n190 Tryz.prog Tryz.K4:={
 mixed:=by kernel_rfl
 f125:=Tryz.func130.trans (congrArg some (by kernel_rfl))
 f128:=Tryz.func150.trans (congrArg some (by kernel_rfl))
 f129:=Tryz.func151.trans (congrArg some (by kernel_rfl))
 f190:=Tryz.func114.trans (congrArg some (by kernel_rfl))
 f258:=Tryz.func129.trans (congrArg some (by kernel_rfl))
 f302:=Tryz.func142.trans (congrArg some (by kernel_rfl))
 f303:=Tryz.func143.trans (congrArg some (by kernel_rfl))
 f304:=Tryz.func144.trans (congrArg some (by kernel_rfl))
 f305:=Tryz.func145.trans (congrArg some (by kernel_rfl))
 f306:=Tryz.func146.trans (congrArg some (by kernel_rfl))
 f307:=Tryz.func147.trans (congrArg some (by kernel_rfl))
 f308:=Tryz.func103.trans (congrArg some (by kernel_rfl))
 f309:=Tryz.func148.trans (congrArg some (by kernel_rfl))
 f310:=Tryz.func149.trans (congrArg some (by kernel_rfl))
 f329:=Tryz.func161.trans (congrArg some (by kernel_rfl))
 f330:=Tryz.func162.trans (congrArg some (by kernel_rfl))
 f333:=Tryz.func160.trans (congrArg some (by kernel_rfl))
 f334:=Tryz.func163.trans (congrArg some (by kernel_rfl))
 f335:=Tryz.func164.trans (congrArg some (by kernel_rfl))
 f336:=Tryz.func125.trans (congrArg some (by kernel_rfl))
 f344:=Tryz.func170.trans (congrArg some (by kernel_rfl))
 t0:=Tryz.underlying0
 a0:=Tryz.isAgg0
 z0:=Tryz.sizeOf0
 v0:=Tryz.zeroValue0
 t3:=Tryz.underlying3
 a3:=Tryz.isAgg3
 z3:=Tryz.sizeOf3
 v3:=Tryz.zeroValue3
 t4:=Tryz.underlying4
 a4:=Tryz.isAgg4
 z4:=Tryz.sizeOf4
 v4:=Tryz.zeroValue4
 t5:=Tryz.underlying5
 a5:=Tryz.isAgg5
 z5:=Tryz.sizeOf5
 v5:=Tryz.zeroValue5
 t9:=Tryz.underlying9
 a9:=Tryz.isAgg9
 z9:=Tryz.sizeOf9
 v9:=Tryz.zeroValue9
 t31:=Tryz.underlying75
 a31:=Tryz.isAgg75
 z31:=Tryz.sizeOf75
 v31:=Tryz.zeroValue75
 t46:=Tryz.underlying122
 a46:=Tryz.isAgg122
 z46:=Tryz.sizeOf122
 v46:=Tryz.zeroValue122
 t51:=Tryz.underlying164
 a51:=Tryz.isAgg164
 z51:=Tryz.sizeOf164
 v51:=Tryz.zeroValue164
 t53:=Tryz.underlying138
 a53:=Tryz.isAgg138
 z53:=Tryz.sizeOf138
 v53:=Tryz.zeroValue138
 t131:=Tryz.underlying90
 a131:=Tryz.isAgg90
 z131:=Tryz.sizeOf90
 v131:=Tryz.zeroValue90
 t182:=Tryz.underlying157
 a182:=Tryz.isAgg157
 z182:=Tryz.sizeOf157
 v182:=Tryz.zeroValue157
 t183:=Tryz.underlying158
 a183:=Tryz.isAgg158
 z183:=Tryz.sizeOf158
 v183:=Tryz.zeroValue158
 t218:=Tryz.underlying174
 a218:=Tryz.isAgg174
 z218:=Tryz.sizeOf174
 v218:=Tryz.zeroValue174
 t222:=Tryz.underlying178
 a222:=Tryz.isAgg178
 z222:=Tryz.sizeOf178
 v222:=Tryz.zeroValue178
 t228:=Tryz.underlying182
 a228:=Tryz.isAgg182
 z228:=Tryz.sizeOf182
 v228:=Tryz.zeroValue182
 t229:=Tryz.underlying183
 a229:=Tryz.isAgg183
 z229:=Tryz.sizeOf183
 v229:=Tryz.zeroValue183 }
def Tryz.K5:Go.Shelf.Ren:=⟨λ| 196=>71 | 259=>99 | n=>n,λ| 9=>9 | 4=>4 | 3=>3 | 5=>5 | 12=>12 | 119=>118 | 0=>0 | 46=>122 | 139=>121 | 138=>120 | 53=>138 | n=>n,λ| 3=>0 | 4=>1 | n=>n⟩
theorem Tryz.IK:Go.Proofs.Lays.n196 Tryz.prog Tryz.K5:={
 mixed:=by kernel_rfl
 f196:=Tryz.func71.trans (congrArg some (by kernel_rfl))
 f259:=Tryz.func99.trans (congrArg some (by kernel_rfl))
 t0:=Tryz.underlying0
 a0:=Tryz.isAgg0
 z0:=Tryz.sizeOf0
 v0:=Tryz.zeroValue0
 t3:=Tryz.underlying3
 a3:=Tryz.isAgg3
 z3:=Tryz.sizeOf3
 v3:=Tryz.zeroValue3
 t4:=Tryz.underlying4
 a4:=Tryz.isAgg4
 z4:=Tryz.sizeOf4
 v4:=Tryz.zeroValue4
 t5:=Tryz.underlying5
 a5:=Tryz.isAgg5
 z5:=Tryz.sizeOf5
 v5:=Tryz.zeroValue5
 t9:=Tryz.underlying9
 a9:=Tryz.isAgg9
 z9:=Tryz.sizeOf9
 v9:=Tryz.zeroValue9
 t12:=Tryz.underlying12
 a12:=Tryz.isAgg12
 z12:=Tryz.sizeOf12
 v12:=Tryz.zeroValue12
 t46:=Tryz.underlying122
 a46:=Tryz.isAgg122
 z46:=Tryz.sizeOf122
 v46:=Tryz.zeroValue122
 t53:=Tryz.underlying138
 a53:=Tryz.isAgg138
 z53:=Tryz.sizeOf138
 v53:=Tryz.zeroValue138
 t119:=Tryz.underlying118
 a119:=Tryz.isAgg118
 z119:=Tryz.sizeOf118
 t138:=Tryz.underlying120
 a138:=Tryz.isAgg120
 z138:=Tryz.sizeOf120
 v138:=Tryz.zeroValue120
 t139:=Tryz.underlying121
 a139:=Tryz.isAgg121
 z139:=Tryz.sizeOf121
 v139:=Tryz.zeroValue121
 g3:=by kernel_rfl
 g4:=by kernel_rfl }
def Tryz.K6:Go.Shelf.Ren:=⟨λ| 237=>132 | 272=>155 | 238=>154 | 315=>166 | 273=>165 | 197=>157 | 271=>159 | 260=>167 | 120=>169 | n=>n,λ| 9=>9 | 40=>148 | 4=>4 | 3=>3 | 105=>171 | 21=>21 | 0=>0 | 5=>5 | 119=>118 | 46=>122 | 139=>121 | 138=>120 | n=>n,λ| 3=>0 | 4=>1 | n=>n⟩
theorem Tryz.PK:Go.Proofs.Lays.n237 Tryz.prog Tryz.K6:={
 mixed:=by kernel_rfl
 f120:=Tryz.func169.trans (congrArg some (by kernel_rfl))
 f197:=Tryz.func157.trans (congrArg some (by kernel_rfl))
 f237:=Tryz.func132.trans (congrArg some (by kernel_rfl))
 f238:=Tryz.func154.trans (congrArg some (by kernel_rfl))
 f260:=Tryz.func167.trans (congrArg some (by kernel_rfl))
 f271:=Tryz.func159.trans (congrArg some (by kernel_rfl))
 f272:=Tryz.func155.trans (congrArg some (by kernel_rfl))
 f273:=Tryz.func165.trans (congrArg some (by kernel_rfl))
 f315:=Tryz.func166.trans (congrArg some (by kernel_rfl))
 t0:=Tryz.underlying0
 a0:=Tryz.isAgg0
 z0:=Tryz.sizeOf0
 v0:=Tryz.zeroValue0
 t3:=Tryz.underlying3
 a3:=Tryz.isAgg3
 z3:=Tryz.sizeOf3
 v3:=Tryz.zeroValue3
 t4:=Tryz.underlying4
 a4:=Tryz.isAgg4
 z4:=Tryz.sizeOf4
 v4:=Tryz.zeroValue4
 t5:=Tryz.underlying5
 a5:=Tryz.isAgg5
 z5:=Tryz.sizeOf5
 v5:=Tryz.zeroValue5
 t9:=Tryz.underlying9
 a9:=Tryz.isAgg9
 z9:=Tryz.sizeOf9
 v9:=Tryz.zeroValue9
 t21:=Tryz.underlying21
 a21:=Tryz.isAgg21
 z21:=Tryz.sizeOf21
 v21:=Tryz.zeroValue21
 t40:=Tryz.underlying148
 a40:=Tryz.isAgg148
 z40:=Tryz.sizeOf148
 v40:=Tryz.zeroValue148
 t46:=Tryz.underlying122
 a46:=Tryz.isAgg122
 z46:=Tryz.sizeOf122
 v46:=Tryz.zeroValue122
 t105:=Tryz.underlying171
 a105:=Tryz.isAgg171
 z105:=Tryz.sizeOf171
 v105:=Tryz.zeroValue171
 t119:=Tryz.underlying118
 a119:=Tryz.isAgg118
 z119:=Tryz.sizeOf118
 t138:=Tryz.underlying120
 a138:=Tryz.isAgg120
 z138:=Tryz.sizeOf120
 v138:=Tryz.zeroValue120
 t139:=Tryz.underlying121
 a139:=Tryz.isAgg121
 z139:=Tryz.sizeOf121
 v139:=Tryz.zeroValue121
 g3:=by kernel_rfl
 g4:=by kernel_rfl }
def Tryz.Bj:Go.Shelf.Ren:=⟨λ| 4=>110 | n=>n,λ| 22=>23 | 25=>46 | 3=>3 | 4=>4 | 9=>9 | 20=>20 | 0=>0 | n=>n,λ| n=>n⟩
theorem Tryz.IL:Go.Proofs.Lays8.n4 Tryz.prog Tryz.Bj:={
 mixed:=by kernel_rfl
 f4:=⟨Tryz.f110.name,by decide,Tryz.func110.trans (congrArg some (by kernel_rfl))⟩
 t0:=Tryz.underlying0
 a0:=Tryz.isAgg0
 z0:=Tryz.sizeOf0
 v0:=Tryz.zeroValue0
 t3:=Tryz.underlying3
 a3:=Tryz.isAgg3
 z3:=Tryz.sizeOf3
 v3:=Tryz.zeroValue3
 t4:=Tryz.underlying4
 a4:=Tryz.isAgg4
 z4:=Tryz.sizeOf4
 v4:=Tryz.zeroValue4
 t9:=Tryz.underlying9
 a9:=Tryz.isAgg9
 z9:=Tryz.sizeOf9
 v9:=Tryz.zeroValue9
 t20:=Tryz.underlying20
 a20:=Tryz.isAgg20
 z20:=Tryz.sizeOf20
 v20:=Tryz.zeroValue20
 t22:=Tryz.underlying23
 a22:=Tryz.isAgg23
 z22:=Tryz.sizeOf23
 v22:=Tryz.zeroValue23 }
end Go.Proofs
namespace Lp
open Go Go.Proofs Go.RowKit
theorem Bl{w:World}{ok:Nat→Prop}{blk:Nat→Option Nat}{args:List PV}{vs:List Value}(h:a_ (aL w ok [] blk) args vs):a_ (bQ w ok) args vs:=h.mono λ_ _ h=>oh h
theorem av.IQ {P:Program}{f:FuncId}{args:List PV}{r:PV}(hent:Enters P f)
  (h:∀(w:World) (vs:List Value) (ok:Nat→Prop),kV.holds w.heap→a_ (bQ w ok) args vs→Calls P f ⟨vs⟩ w λe w'=>∃v,e=.returned v∧(∀w ok,bQ w ok r v)∧Below w.heap.size w w') :
  av P f args [] r []:=by
 refine⟨hent,λw blk vs base hb _ hargs=>(h w vs _ hb.1 (Bl hargs)).mono ?_⟩
 rintro e w' ⟨v,h1,h2,h3⟩
 exact⟨v,blk,h1,tF,.aF (h2 _ _),λb hb _=>h3.block b hb,h3.size,h3.os,h3.output⟩
theorem av.NY {P:Program}{f:FuncId}{args:List PV}{ty:TypeId}{sz:Nat}(hent:Enters P f)(hty:ty≠MT)
  (h:∀(w:World) (vs:List Value) (ok:Nat→Prop),kV.holds w.heap→a_ (bQ w ok) args vs→Calls P f ⟨vs⟩ w λe w'=>∃v,e=.returned v∧Below w.heap.size w w'∧
   (v=.slice none 0 0∨∃g cap c,w.heap.size≤g∧v=.slice (some ⟨g,0,none⟩) 0 cap∧w'.heap[g]?=some (.cells c ty (0,0))∧cap≤maxLen∧c.size=cap*sz)) :
  av P f args [] (.aW 0 0) [⟨ty,sz,[],true,0⟩]:=by
 refine⟨hent,λw blk vs base hb _ hargs=>(h w vs _ hb.1 (Bl hargs)).mono ?_⟩
 have one:∀(k:Nat) (o:Obj),([⟨ty,sz,[],true,0⟩]:List Obj)[k]?=some o→k=0∧o=⟨ty,sz,[],true,0⟩:=λk o ho=>by
  match k,ho with
  | 0,ho=>cases ho;exact⟨rfl,rfl⟩
  | _+1,ho=>simp at ho
 rintro e w' ⟨v,h1,h3,h4⟩
 rcases h4 with rfl | ⟨g,cap,c,hg,rfl,hc,hm,hs⟩
 ·refine⟨_,λ_=>none,h1,⟨λk o ho _=>?_,λk k' o o' g _ _ _ _ _ hx=>(by cases hx),λk o g _ _ hx=>(by cases hx)⟩,⟨rfl,_,rfl,Nat.le_refl _,λ_ _=>⟨hty,?_⟩⟩,λb hb _=>h3.block b hb,h3.size,h3.os,h3.output⟩
  ·obtain⟨rfl,rfl⟩:=one k o ho;rfl
  ·exact⟨rfl,rfl⟩
 ·refine⟨_,λ_=>some g,h1,⟨λk o ho _=>?_,λk k' o o' g hkk ho _ ho' _ _=>?_,λk o g' ho _ hx hp=>?_⟩,⟨rfl,_,rfl,Nat.le_refl _,λ_ _=>⟨hty,?_⟩⟩,λb hb _=>h3.block b hb,h3.size,h3.os,h3.output⟩
  ·obtain⟨rfl,rfl⟩:=one k o ho
   exact⟨c,by rw[jc hty];exact hc,oP hty (by simp),λi x hx=>by simp at hx⟩
  ·obtain⟨rfl,_⟩:=one k o ho
   obtain⟨rfl,_⟩:=one k' o' ho'
   exact absurd rfl hkk
  ·simp only[Option.some.injEq]at hx
   subst hx
   exact absurd hp.1 (by omega)
  ·exact⟨cap,c,rfl,hc,Nat.zero_le _,hm,hs⟩
theorem abH{w:World}{ok:Nat→Prop}{p:PV}{vs:List Value}(h:a_ (bQ w ok) [p] vs):∃u,vs=[u]∧bQ w ok p u:=by
 obtain⟨hl,h⟩:=h
 match vs,hl with
 | [u],_=>exact⟨u,rfl,h 0 _ _ rfl rfl⟩
theorem V4{w:World}{ok:Nat→Prop}{p q:PV}{vs:List Value}(h:a_ (bQ w ok) [p,q] vs):∃u v,vs=[u,v]∧bQ w ok p u∧bQ w ok q v:=by
 obtain⟨hl,h⟩:=h
 match vs,hl with
 | [u,v],_=>exact⟨u,v,rfl,h 0 _ _ rfl rfl,h 1 _ _ rfl rfl⟩
theorem uf{w:World}{ok:Nat→Prop}{s:List UInt8}{v:Value}(h:bQ w ok (.str s) v):v=.string ⟨⟨s⟩⟩:=by cases h;rfl
theorem DT{w:World}{ok:Nat→Prop}{k:IntKind}{n:Int}{v:Value}(h:bQ w ok (.int k n) v):v=.int k n:=by cases h;rfl
theorem NZ(w:World):Below w.heap.size w w.drew:=(Below.refl _ _).drew
theorem GK{w:World}(h:kV.holds w.heap):Lib.Utf8Tabs 0 1 w:=h w rfl
theorem Ak(s:List UInt8)(hs:s.length≤4611686018427387904):av Tryz.prog 71 [.str s] [] (.bool (utf s)) []:=by
 refine av.IQ ⟨_,Tryz.IK.f196,by kernel_rfl,by kernel_rfl⟩ λw vs ok hg hr=>?_
 obtain⟨u,rfl,h⟩:=abH hr
 cases uf h
 refine (Any.utf8_ValidString Tryz.IK ⟨⟨s⟩⟩ w (by rw[Lib.size_eq];simp;omega) (GK hg)).mono ?_
 rintro e w' ⟨h1,h2⟩
 exact⟨_,h1,λw ok=>by rw[Rn];exact .bool _,h2⟩
theorem N7(s:List UInt8)(hs:s.length≤4611686018427387904):av Tryz.prog 124 [.str s,.str [48]] [] (.str (Lib.trimB s 48)) []:=by
 refine av.IQ ⟨_,Tryz.PG.f160,by kernel_rfl,by kernel_rfl⟩ λw vs ok hg hr=>?_
 obtain⟨u,v,rfl,h,h'⟩:=V4 hr
 cases uf h
 cases uf h'
 refine (Any.strings_Trim_one Tryz.PG ⟨⟨s⟩⟩ 48 (by decide) w (by rw[Lib.size_eq];simp;omega)).mono ?_
 rintro e w' ⟨h1,h2⟩
 refine⟨_,h1,λw ok=>.str _,?_⟩
 rcases h2 with rfl | rfl
 ·exact .refl _ _
 ·exact NZ w
theorem E_(W:World)(x:Nat)(hx:x≤1114111):Calls Tryz.prog 133 #[.int .i32 (x:Int)] W λe w'=>e=.returned (.bool (kD x))∧Below W.heap.size W w':=by
 have mixed:Tryz.prog.follows .mixedOrders=true:=by kernel_rfl
 have e1:kD x=(decide (48≤(x:Int)) && decide ((x:Int)≤57)):=by
  have a:decide (48≤x)=decide (48≤(x:Int)):=decide_eq_decide.2 (by omega)
  have b:decide (x≤57)=decide ((x:Int)≤57):=decide_eq_decide.2 (by omega)
  rw[kD,a,b]
 rw[e1]
 have h1:(x:Int)<48∨48≤(x:Int):=by omega
 rcases h1 with h1 | h1
 ·have h2:¬ (48≤(x:Int)):=by omega
  rw[decide_eq_false h2]
  go_enter Tryz.func133,Tryz.ntmps133
  go_wp2
  go_ret
  exact⟨rfl,.refl _ _⟩
 ·rw[decide_eq_true h1]
  rcases (by omega:(x:Int)≤57∨57<(x:Int)) with h2 | h2
  ·rw[decide_eq_true h2]
   go_enter Tryz.func133,Tryz.ntmps133
   go_wp2
   go_ret
   exact⟨rfl,.refl _ _⟩
  ·have h3:¬ ((x:Int)≤57):=by omega
   rw[decide_eq_false h3]
   go_enter Tryz.func133,Tryz.ntmps133
   go_wp2
   go_ret
   exact⟨rfl,.refl _ _⟩
theorem IU(s:List UInt8)(hs:s.length≤4611686018427387904):av Tryz.prog 132 [.str s,.fn 133 [] []] [] (.str (Lib.trimF kD ⟨⟨s⟩⟩).data.toList) []:=by
 refine av.IQ ⟨_,Tryz.PK.f237,by kernel_rfl,by kernel_rfl⟩ λw vs ok hg hr=>?_
 obtain⟨u,v,rfl,h,h'⟩:=V4 hr
 cases uf h
 have hv:v=.func (.func 133) #[] #[]:=by
  cases h' with
  | fn _ _ _ va vc hla hlc ha hc=>
   have e1:va=[]:=List.length_eq_zero_iff.1 (by simpa using hla.symm)
   have e2:vc=[]:=List.length_eq_zero_iff.1 (by simpa using hlc.symm)
   subst e1;subst e2;rfl
 subst hv
 have eg:∀args w,(callFunc 133 args).run Tryz.prog w=.ok (.enter 133 args) w:=enters_of Tryz.func133 (by kernel_rfl) rfl
 refine (Any.strings_TrimFunc_grows Tryz.PK 133 #[] eg kD ⟨⟨s⟩⟩ w (by rw[Lib.size_eq];simp;omega) (GK hg) λW x hx _=>E_ W x hx).mono ?_
 rintro e w' ⟨h1,h2⟩
 exact⟨_,h1,λw ok=>.str _,h2⟩
def qW:fu:=λargs objs K=>match args with
 | [.str s,a1]=>a1=(.fn 133 [] [])∧(s.length≤4611686018427387904)∧K (.str (Lib.trimF kD ⟨⟨s⟩⟩).data.toList) objs 0
 | _=>False
theorem Fa:aQ Tryz.prog 132 (qW):=by
 intro args objs K h
 unfold qW at h
 split at h
 ·rename_i s a1
  obtain⟨rfl,h1,hk⟩:=h
  exact⟨_,_,_,.pure _ rfl (IU s h1),hk⟩
 ·exact h.elim
def bS:fu:=λargs objs K=>match args with
 | [.str s]=>(s.length≤4611686018427387904)∧K (.bool (utf s)) objs 0
 | _=>False
theorem qX:aQ Tryz.prog 71 (bS):=by
 intro args objs K h
 unfold bS at h
 split at h
 ·rename_i s
  obtain⟨h1,hk⟩:=h
  exact⟨_,_,_,.pure _ rfl (Ak s h1),hk⟩
 ·exact h.elim
def yU:fu:=λargs objs K=>match args with
 | [.str s,a1]=>a1=(.str [48])∧(s.length≤4611686018427387904)∧K (.str (Lib.trimB s 48)) objs 0
 | _=>False
theorem K7:aQ Tryz.prog 124 (yU):=by
 intro args objs K h
 unfold yU at h
 split at h
 ·rename_i s a1
  obtain⟨rfl,h1,hk⟩:=h
  exact⟨_,_,_,.pure _ rfl (N7 s h1),hk⟩
 ·exact h.elim
theorem N8(n:Int)(h0:0≤n)(h1:n≤1000000):av Tryz.prog 110 [.sl 0 [] (some true),.int .i64 n] [] (.aW 0 0) [⟨46,6,[],true,0⟩]:=by
 obtain⟨n,rfl⟩:∃k:Nat,n=k:=⟨n.toNat,by omega⟩
 refine av.NY (by
  obtain⟨nm,hn,hf⟩:=Tryz.IL.f4
  exact⟨_,hf,hn,by kernel_rfl⟩) (by decide) λw vs ok hg hr=>?_
 obtain⟨u,v,rfl,h,h'⟩:=V4 hr
 cases DT h'
 have hu:u=.slice none 0 0:=by
  cases h with
  | slnil=>rfl
  | Cy _ _ hq=>exact absurd rfl hq
  | sl _ _ _ hq=>exact absurd rfl hq
 subst hu
 rcases Nat.eq_zero_or_pos n with h0 | h0
 ·subst h0
  refine (Any8.slices_Grow_room Tryz.IL none 0 0 0 w (by decide) (by decide) (by decide) (by decide)).mono ?_
  rintro e w' ⟨h1,rfl⟩
  exact⟨_,h1,.refl _ _,.inl rfl⟩
 ·obtain⟨⟨inf,hi0,hzs,hzb,hz0,_⟩,_⟩:=(hD 46).resolve_left (by simp[dL])
  have hzs:inf.size=6:=hzs
  have hzb:inf.bytes=64:=hzb
  have hz0:inf.zero=some (.agg ⟨[.int .i64 0,.int .i64 0,.string ⟨⟨[]⟩⟩,.string ⟨⟨[]⟩⟩,.bool false,.int .i64 0]⟩):=hz0
  have hge:=grownCap_ge w (0+n) 0 46
  have hmx:=grownCap_le_maxLen w (0+n) 0 46 (by unfold maxLen;omega)
  refine (Any8.slices_Grow_grow Tryz.IL inf _ hi0 hz0 (by omega) none 0 0 n [] w (by decide) (by omega) (by rw[hzb];omega) (by omega) (by simp) (λ_=>rfl) (λa ha=>by cases ha)).mono ?_
  rintro e w' ⟨h1,rfl⟩
  refine⟨_,h1,(Below.refl w.heap.size w).drew.alloc (Nat.le_refl _) _,.inr ⟨w.heap.size,_,_,Nat.le_refl _,rfl,heap_alloc_new w.drew _,hmx,?_⟩⟩
  simp only[Array.size_append,size_zeroCells,List.size_toArray,List.length_nil]
  have e6:(Value.agg ⟨[.int .i64 0,.int .i64 0,.string ⟨⟨[]⟩⟩,.string ⟨⟨[]⟩⟩,.bool false,.int .i64 0]⟩).cells.size=6:=by decide
  rw[e6]
  have et:Tryz.Bj.t 25=46:=rfl
  rw[et]
  omega
def yV:fu:=λargs objs K=>match args with
 | [.sl 0 [] (some true),.int .i64 n]=>0≤n∧n≤1000000∧K (.aW objs.length 0) (objs++[⟨46,6,[],true,0⟩]) 2
 | _=>False
theorem K8:aQ Tryz.prog 110 yV:=by
 intro args objs K h
 unfold yV at h
 split at h
 ·rename_i n
  obtain⟨h0,h1,hk⟩:=h
  have h:=kJ.made (objs:=objs) _ _ rfl (λo ho x hx=>by simp at ho;subst ho;cases hx) (N8 n h0 h1)
  exact⟨_,_,_,h,by simpa[PV.shift,PV.jO] using hk⟩
 ·exact h.elim
end Lp
namespace Lp
open Go Go.Proofs
theorem K9(l:List Vl)(hl:l.length≤1000000)(hb:l.flatten.length≤1000000):av Tryz.prog 81 [dV l] [] (ak l.flatten) []:=by
 refine kC.cZ (T:=bH Tryz.prog [(110,yV)]) 1 hD (ax (af K8 au)) bM (by decide) λQ hQ=>?_
 (conv=>arg 4;cbv);simp (maxSteps:=400000) only[↓aI,aJ,BEq.rfl,seval,hQ]
 refine bA (λm S=>∃i:Nat,i+m=l.length∧S=⟨dR 36 [(0,dV l),(3,.int .i64 ((l.take i).flatten.length:Nat)),(9,dV l),(10,.int .i64 l.length),(11,.int .i64 i)],[]⟩) l.length ⟨0,by omega,?_⟩ ?_
 ·simp only[dX,keepR,Nat.reduceAdd,tK,Nat.reduceBEq,List.map_nil]
  rfl
 rintro m S ⟨i,him,rfl⟩
 rcases Nat.lt_or_ge i l.length with h | h
 ·have hlt:((i:Int)<(l.length:Int))=True:=eq_true (by omega)
  have hgi:=List.getElem?_eq_getElem h
  generalize l[i]=v at hgi
  have hs:=DL l hgi
  have hf:=Aj l hgi
  have zi:(0≤(i:Int))=True:=eq_true (by omega)
  have hs':((l.take (i+1)).flatten.length:Int)=(l.take i).flatten.length+v.length:=by rw[hs,List.length_append];omega
  have hn:(((l.take i).flatten.length:Int)+v.length<0)=False:=eq_false (by omega)
  simp (maxSteps:=400000) only[↓aI,aJ,BEq.rfl,seval,hQ,hlt,zi,hgi,hn]
  refine⟨⟨by omega,by omega⟩,⟨by omega,by omega⟩,m-1,by omega,i+1,by omega,?_⟩
  rw[hs']
  rfl
 have hlt:((i:Int)<(l.length:Int))=False:=eq_false (by omega)
 rw[List.take_of_length_le h]
 simp (maxSteps:=400000) only[↓aI,aJ,BEq.rfl,seval,hQ,hlt,↓yV]
 refine⟨by omega,by omega,?_⟩
 refine bA (λm S=>∃i ver:Nat,i+m=l.length∧S=⟨dR 36 [(6,.aW 0 ver),(25,dV l),(26,.int .i64 l.length),(27,.int .i64 i)],[⟨46,6,(l.take i).flatten.map aM,true,ver⟩]⟩) l.length ⟨0,0,by omega,?_⟩ ?_
 ·simp only[dX,keepR,Nat.reduceAdd,tK,Nat.reduceBEq,List.map_nil]
  rfl
 rintro m' S ⟨j,ver,hjm,rfl⟩
 rcases Nat.lt_or_ge j l.length with h' | h'
 rotate_left 1
 ·have hlt:((j:Int)<(l.length:Int))=False:=eq_false (by omega)
  simp (maxSteps:=400000) only[↓aI,aJ,BEq.rfl,seval,hQ,hlt]
  rw[List.take_of_length_le h']
  all_goals exact (Rm l.flatten ver 46 []).symm
 have hlt:((j:Int)<(l.length:Int))=True:=eq_true (by omega)
 have hgi:=List.getElem?_eq_getElem h'
 generalize l[j]=v at hgi
 have hs:=DL l hgi
 have hf:=Aj l hgi
 have zi:(0≤(j:Int))=True:=eq_true (by omega)
 simp (maxSteps:=400000) only[↓aI,aJ,BEq.rfl,seval,hQ,hlt,zi,hgi,YN,YO]
 refine⟨by omega,by omega,⟨by omega,by omega⟩,m'-1,by omega,j+1,ver+1,by omega,?_⟩
 rw[hs]
 rfl
def vG:fu:=λargs objs K=>match args with
 | [a0]=>jF dV a0 (HK.mk:HK λl=>(l.length≤1000000)∧(l.flatten.length≤1000000)∧K (ak l.flatten) objs 0)
 | _=>False
theorem IV:aQ Tryz.prog 81 (vG):=by
 intro args objs K h
 unfold vG at h
 split at h
 ·rename_i a0
  obtain⟨l,rfl,h1,h2,hk⟩:=h
  exact⟨_,_,_,.pure _ rfl (K9 l h1 h2),hk⟩
 ·exact h.elim
theorem abI{names:List (List UInt8)}{l:List Vl}{i:Nat}{nm:List UInt8}{v:Vl}(h1:names[i]?=some nm)(h2:l[i]?=some v) :
  List.zipWith j_ (names.take (i+1)) (l.take (i+1))=List.zipWith j_ (names.take i) (l.take i)++[j_ nm v]:=by
 have a:=(List.getElem?_eq_some_iff.1 h1).1
 have b:=(List.getElem?_eq_some_iff.1 h2).1
 rw[List.take_add_one,List.take_add_one,h1,h2,List.zipWith_append (by simp;omega)]
 rfl
theorem Ud(A:Vl)(n:Nd)(r:Vl)(nm:List UInt8):(A.map aM++(n::r).map aM).set A.length (aM { n with name:=nm })=(A++j_ nm (n::r)).map aM:=by
 rw[List.set_append_right _ _ (by simp)]
 simp[j_]
theorem IW(names:List (List UInt8))(l:List Vl):(List.zipWith j_ names l).flatten.length≤l.flatten.length:=by
 induction l generalizing names with
 | nil=>simp
 | cons v l ih=>
  cases names with
  | nil=>simp
  | cons nm names=>
   have:=ih names
   simp only[List.zipWith_cons_cons,List.flatten_cons,List.length_append,AO]
   omega
def K_(v:Vl)(ver:Nat):Obj:=⟨46,6,v.map aM,true,ver⟩
theorem xu(v:Vl)(ver:Nat):∀x∈(K_ v ver).xs,∀p∈x.cells,p.atom=true:=by
 intro x hx p hp
 obtain⟨n,_,rfl⟩:=List.mem_map.1 hx
 simp only[aM,PV.cells,List.mem_cons,List.not_mem_nil,or_false]at hp
 rcases hp with rfl | rfl | rfl | rfl | rfl | rfl<;>rfl
theorem GL(v:Vl)(ver:Nat):bg [K_ v ver]:=by
 intro o ho x hx c hc
 simp only[List.mem_singleton]at ho;subst ho
 exact qI (xu v ver x hx c hc)
theorem DU(d n:Nat)(O:List Obj)(t:TypeId)(sz:Nat)(v:Vl)(ver:Nat):eO d n O ⟨t,sz,v.map aM,true,ver⟩=⟨t,sz,v.map aM,true,ver⟩:=by
 have:(v.map aM).map (PV.bI (fB d n O))=v.map aM:=by
  rw[List.map_map]
  exact List.map_congr_left λx _=>rfl
 simp only[eO,this]
theorem Ro(names:List (List UInt8))(l:List Vl)(hn:names.length=l.length)(hl:l.length≤1000000)(hb:l.flatten.length≤1000000)(hne:∀v∈l,v≠[]):av Tryz.prog 78 [oJ names,dV l] [] (.aW 0 0) [K_ (Qa names l) 0]:=by
 refine Ny.PE (T:=bH Tryz.prog []) 1 hD (ax au) bM λQ hQ=>?_
 (conv=>arg 4;cbv);simp (maxSteps:=400000) only[↓aI,aJ,BEq.rfl,seval,hQ,YN,YO]
 refine bA (λm S=>∃i ver:Nat,i+m=l.length∧S=⟨dR 35 [(0,oJ names),(5,.aW 0 ver),(13,dV l),(14,.int .i64 l.length),(15,.int .i64 i)],[⟨46,6,((⟨6,l.length,[],[],false,0⟩:Nd)::(List.zipWith j_ (names.take i) (l.take i)).flatten).map aM,true,ver⟩]⟩) l.length ⟨0,1,by omega,?_⟩ ?_
 ·simp only[dX,keepR,Nat.reduceAdd,tK,Nat.reduceBEq,List.map_nil]
  rfl
 rintro m S ⟨i,ver,him,rfl⟩
 rcases Nat.lt_or_ge i l.length with h | h
 rotate_left 1
 ·have hlt:((i:Int)<(l.length:Int))=False:=eq_false (by omega)
  simp (maxSteps:=400000) only[↓aI,aJ,BEq.rfl,seval,hQ,hlt]
  rw[List.take_of_length_le h,List.take_of_length_le (by omega)]
  exact VY (k:=0) (ver:=ver) rfl rfl rfl rfl (congrArg (λo:Obj=>{ o with ver:=0 }) (DU 1 1 _ 46 6 (Qa names l) ver)) (GL _ 0)
 have hlt:((i:Int)<(l.length:Int))=True:=eq_true (by omega)
 have hgi:=List.getElem?_eq_getElem h
 have hgn:names[i]?=some (names[i]'(by omega)):=List.getElem?_eq_getElem (by omega)
 have hv:=hne _ (List.getElem_mem h)
 generalize l[i]=v at hgi hv
 generalize names[i]'(by omega)=nm at hgn
 have hz:=abI hgn hgi
 have hf:=Aj l hgi
 have hf2:=IW (names.take i) (l.take i)
 generalize hA:(List.zipWith j_ (names.take i) (l.take i)).flatten=A at *
 obtain⟨n,r,rfl⟩:∃n r,v=n::r:=by
  cases v with
  | nil=>exact absurd rfl hv
  | cons n r=>exact⟨n,r,rfl⟩
 have zi:(0≤(i:Int))=True:=eq_true (by omega)
 simp (maxSteps:=400000) only[↓aI,aJ,BEq.rfl,seval,hQ,hlt,zi,hgi,hgn,YN,YO]
 have hf3:A.length+(r.length+1)≤1000000:=by rw[List.length_cons]at hf;omega
 refine⟨aaA n r ▸ trivial,by omega,by omega,by omega,by omega,aM n,by simp,by simp[aaB],⟨by omega,by omega⟩,m-1,by omega,i+1,ver+1,by omega,?_⟩
 rw[hz,List.flatten_append,hA,nmP]
 have:=Ud A n r nm
 rw[List.map_cons]at this
 rw[this]
 simp
end Lp
namespace Lp
open Go Go.Proofs
end Lp
namespace Lp
open Go
structure Ue (names:List (List UInt8)) (l:List Vl) (q:mK) (done:List Bool) (m:Nat):Prop where
 par:names.length=l.length
 len:done.length=names.length
 cnt:q.length+m=names.length
 left:done.count false=m
 mem:∀x:List UInt8×Vl,x∈q↔∃i:Nat,done[i]?=some true∧names[i]?=some x.1∧l[i]?=some x.2
 rise:nL (q.map (·.1))
 utf:∀x∈q,utf x.1=true
 low:∀(i:Nat) nm,done[i]?=some false→names[i]?=some nm→∀x∈q,Op.bytesLess nm x.1=false
 one:∀(i j:Nat) nm,done[i]?=some true→done[j]?=some true→names[i]?=some nm→names[j]?=some nm→i=j
theorem Ue.above {names:List (List UInt8)}{l:List Vl}{q:mK}{done:List Bool}{m:Nat}(h:Ue names l q done m){b:Nat}{nm:List UInt8}(hb:done[b]?=some false)(hn:names[b]?=some nm)
  (hl:∀x,q.getLast?=some x→x.1≠nm):∀x∈q,Op.bytesLess x.1 nm=true:=by
 have hlow:=h.low b nm hb hn
 rcases List.eq_nil_or_concat q with rfl | ⟨q',z,rfl⟩
 ·intro x hx;cases hx
 rw[List.concat_eq_append]at *
 have hz:z∈q'++[z]:=by simp
 have hzl:Op.bytesLess z.1 nm=true:=by
  rcases Ho z.1 nm with g | g | g
  ·exact g
  ·exact absurd g (hl z (by simp))
  ·rw[hlow z hz]at g;cases g
 intro x hx
 have hr:=h.rise
 rw[List.map_append]at hr
 rcases List.mem_append.1 hx with hx | hx
 ·exact lZ _ _ _ ((List.pairwise_append.1 hr).2.2 x.1 (List.mem_map.2 ⟨x,hx,rfl⟩) z.1 (by simp)) hzl
 ·simp only[List.mem_singleton]at hx
  subst hx;exact hzl
theorem Ue.step {names:List (List UInt8)}{l:List Vl}{q:mK}{done:List Bool}{m:Nat}(h:Ue names l q done (m+1)){b:Nat}{nm:List UInt8}{v:Vl}(hb:done[b]?=some false)(hn:names[b]?=some nm)(hv:l[b]?=some v)
  (hmin:∀(i:Nat) U4,done[i]?=some false→names[i]?=some U4→Op.bytesLess U4 nm=false) (hu:Lp.utf nm=true) (hl:∀x,q.getLast?=some x→x.1≠nm) :
  Ue names l (q++[(nm,v)]) (done.set b true) m:=by
 have hbl:=(List.getElem?_eq_some_iff.1 hb).1
 have hab:=h.above hb hn hl
 have hset:∀i c,(done.set b true)[i]?=some c→(i=b∧c=true)∨(i≠b∧done[i]?=some c):=λi c hc=>by
  rw[List.getElem?_set]at hc
  split at hc
  ·rename_i e
   subst e
   exact .inl ⟨rfl,by simpa[hbl] using hc.symm⟩
  ·rename_i e
   exact .inr ⟨λe'=>e e'.symm,hc⟩
 have hset':∀i c,i≠b→done[i]?=some c→(done.set b true)[i]?=some c:=λi c hi hc=>by
  rw[List.getElem?_set_ne (λe=>hi e.symm)];exact hc
 have hsb:(done.set b true)[b]?=some true:=by rw[List.getElem?_set_self hbl]
 refine⟨h.par,by simp[h.len],by have:=h.cnt;simp;omega,?_,λx=>?_,?_,?_,?_,?_⟩
 ·have h1:=h.left
  have e:done=done.take b++false::done.drop (b+1):=by
   have:=List.getElem?_eq_some_iff.1 hb
   obtain⟨_,e⟩:=this
   conv=>lhs;rw[←List.take_append_drop b done,List.drop_eq_getElem_cons hbl,e]
  have e2:done.set b true=done.take b++true::done.drop (b+1):=by
   rw[List.set_eq_take_append_cons_drop,if_pos hbl]
  rw[e2,List.count_append,List.count_cons]
  rw[e,List.count_append,List.count_cons]at h1
  simp at h1 ⊢
  omega
 ·rw[List.mem_append,h.mem]
  constructor
  ·rintro (⟨i,h1,h2,h3⟩ | hx)
   ·have:i≠b:=λe=>by subst e;rw[hb]at h1;cases h1
    exact⟨i,hset' i _ this h1,h2,h3⟩
   ·simp only[List.mem_singleton]at hx
    subst hx
    exact⟨b,hsb,hn,hv⟩
  ·rintro⟨i,h1,h2,h3⟩
   rcases hset i _ h1 with ⟨rfl,_⟩ | ⟨hi,hd⟩
   ·right
    rw[hn]at h2;rw[hv]at h3
    simp only[Option.some.injEq]at h2 h3
    simp[h2,h3]
   ·exact .inl ⟨i,hd,h2,h3⟩
 ·rw[List.map_append]
  refine List.pairwise_append.2 ⟨h.rise,by simp,λx hx y hy=>?_⟩
  simp only[List.map_cons,List.map_nil,List.mem_singleton]at hy
  subst hy
  obtain⟨z,hz,rfl⟩:=List.mem_map.1 hx
  exact hab z hz
 ·intro x hx
  rcases List.mem_append.1 hx with hx | hx
  ·exact h.utf x hx
  ·simp only[List.mem_singleton]at hx
   subst hx;exact hu
 ·intro i U4 h1 h2 x hx
  rcases hset i _ h1 with ⟨_,hc⟩ | ⟨hi,hd⟩
  ·cases hc
  ·rcases List.mem_append.1 hx with hx | hx
   ·exact h.low i U4 hd h2 x hx
   ·simp only[List.mem_singleton]at hx
    subst hx
    exact hmin i U4 hd h2
 ·intro i j U4 h1 h2 h3 h4
  have key:∀k,k≠b→done[k]?=some true→names[k]?=some U4→U4≠nm:=λk hk hd hnk e=>by
   subst e
   have hkl:k<l.length:=by rw[←h.par];exact (List.getElem?_eq_some_iff.1 hnk).1
   have:=hab (U4,l[k]) ((h.mem _).2 ⟨k,hd,hnk,List.getElem?_eq_getElem hkl⟩)
   rw[nk]at this;cases this
  rcases hset i _ h1 with ⟨rfl,_⟩ | ⟨hi,hd⟩
  ·rcases hset j _ h2 with ⟨rfl,_⟩ | ⟨hj,hd'⟩
   ·rfl
   ·rw[hn]at h3
    simp only[Option.some.injEq]at h3
    exact absurd h3.symm (key j hj hd' h4)
  ·rcases hset j _ h2 with ⟨rfl,_⟩ | ⟨hj,hd'⟩
   ·rw[hn]at h4
    simp only[Option.some.injEq]at h4
    exact absurd h4.symm (key i hi hd h3)
   ·exact h.one i j U4 hd hd' h3 h4
theorem Ue.all {names:List (List UInt8)}{l:List Vl}{q:mK}{done:List Bool}(h:Ue names l q done 0){i:Nat}(hi:i<names.length):done[i]?=some true:=by
 have h1:=List.getElem?_eq_getElem (by rw[h.len];exact hi:i<done.length)
 rw[h1]
 cases hd:done[i]'(by rw[h.len];exact hi) with
 | true=>rfl
 | false=>
  have:=h.left
  rw[List.count_eq_zero]at this
  exact absurd (by rw[←hd];exact List.getElem_mem _) this
theorem Ue.end {names:List (List UInt8)}{l:List Vl}{q:mK}{done:List Bool}(h:Ue names l q done 0):uQ names l.length=true∧q=Sy (names.zip l):=by
 have hq:∀(i:Nat) (hi:i<names.length),(names[i],l[i]'(by rw[←h.par];exact hi))∈q:=λi hi=>
  (h.mem _).2 ⟨i,h.all hi,List.getElem?_eq_getElem hi,List.getElem?_eq_getElem _⟩
 have hok:uQ names l.length=true:=by
  rw[sG]
  refine⟨h.par,?_,λx hx=>?_⟩
  ·refine List.pairwise_iff_getElem.2 λi j hi hj hij e=>?_
   have:=h.one i j names[i] (h.all hi) (h.all hj) (List.getElem?_eq_getElem hi) (by rw[e];exact List.getElem?_eq_getElem hj)
   omega
  ·obtain⟨i,hi,rfl⟩:=List.mem_iff_getElem.1 hx
   exact h.utf _ (hq i hi)
 refine⟨hok,JP hok h.rise λx=>?_⟩
 constructor
 ·intro hx
  obtain⟨i,_,h2,h3⟩:=(h.mem x).1 hx
  refine List.mem_iff_getElem?.2 ⟨i,?_⟩
  rw[List.getElem?_zip_eq_some]
  exact⟨h2,h3⟩
 ·intro hx
  obtain⟨i,hi⟩:=List.mem_iff_getElem?.1 hx
  rw[List.getElem?_zip_eq_some]at hi
  exact (h.mem x).2 ⟨i,h.all (List.getElem?_eq_some_iff.1 hi.1).1,hi.1,hi.2⟩
theorem Ue.some {names:List (List UInt8)}{l:List Vl}{q:mK}{done:List Bool}{m:Nat}(h:Ue names l q done (m+1)):∃i:Nat,done[i]?=Option.some false:=by
 have:0<done.count false:=by rw[h.left];omega
 exact List.mem_iff_getElem?.1 (List.count_pos_iff.1 this)
end Lp
namespace Lp
open Go Go.Proofs
section
variable {α:Type}{enc:α→PV}{sz:Nat}
def MF(enc:α→PV)(xs:List PV){K:List α→Prop}(_h:HK K):Prop:=∃l,xs=l.map enc∧K l
theorem IX(hi:∀a b,enc a=enc b→a=b)(K:List α→Prop)(l:List α):MF enc (l.map enc) (HK.mk:HK K)=K l:=by
 refine propext ⟨λ⟨m,h1,h2⟩=>?_,λh=>⟨l,rfl,h⟩⟩
 have:l=m:=(List.map_inj_right (λa b h=>hi a b h)).1 h1
 subst this;exact h2
def yX(enc:α→PV)(sz:Nat)(a:PV)(objs:List Obj){K:List α→Prop}(_h:HK K):Prop:=match a with
 | .aW k ver=>∃o,objs[k]?=some o∧o.live=true∧o.ver=ver∧o.sz=sz∧MF enc o.xs (HK.mk:HK K)
 | .sl _ [] (some true)=>K []
 | .sl s xs none=>s=sz∧MF enc xs (HK.mk:HK K)
 | _=>False
theorem qY{a:PV}{objs:List Obj}{K:List α→Prop}(hc:∀x,∀c∈(enc x).cells,c.ref=false)(h:yX enc sz a objs (HK.mk:HK K)):∃l a',X8 objs a a'∧eY a' (.sl sz (l.map enc) none)∧K l:=by
 unfold yX at h
 split at h
 ·obtain⟨o,h1,h2,h3,rfl,l,h4,h5⟩:=h
  refine⟨l,.sl o.sz o.xs none,⟨o,h1,h2,h3,λx hx c hcc=>?_,rfl⟩,by rw[h4];exact .refl _,h5⟩
  rw[h4]at hx
  obtain⟨y,_,rfl⟩:=List.mem_map.1 hx
  exact hc y c hcc
 ·exact⟨[],_,⟨rfl,rfl⟩,ig _ _,h⟩
 ·obtain⟨rfl,l,rfl,h5⟩:=h
  exact⟨l,_,⟨rfl,rfl⟩,.refl _,h5⟩
 ·exact h.elim
end
theorem str_inj:∀a b:List UInt8,PV.str a=.str b→a=b:=λa b h=>by cases h;rfl
theorem La:(∀(K:List (List UInt8)→Prop) l,MF .str (l.map .str) (HK.mk:HK K)=K l)∧(∀(K:List Vl→Prop) l,MF ak (l.map ak) (HK.mk:HK K)=K l):=⟨IX str_inj,IX kP⟩
theorem Rp(objs:List Obj) :
  (∀(K:List (List UInt8)→Prop) l,yX .str 1 (oJ l) objs (HK.mk:HK K)=K l)∧(∀(K:List (List UInt8)→Prop) s,yX .str 1 (.sl s [] (some true)) objs (HK.mk:HK K)=K [])∧
  (∀(K:List (List UInt8)→Prop) k ver,yX .str 1 (.aW k ver) objs (HK.mk:HK K)=∃o,objs[k]?=some o∧o.live=true∧o.ver=ver∧o.sz=1∧MF .str o.xs (HK.mk:HK K))∧
  (∀(K:List Vl→Prop) l,yX ak 1 (dV l) objs (HK.mk:HK K)=K l)∧(∀(K:List Vl→Prop) s,yX ak 1 (.sl s [] (some true)) objs (HK.mk:HK K)=K [])∧
  (∀(K:List Vl→Prop) k ver,yX ak 1 (.aW k ver) objs (HK.mk:HK K)=∃o,objs[k]?=some o∧o.live=true∧o.ver=ver∧o.sz=1∧MF ak o.xs (HK.mk:HK K)):=by
 have h1:=La.1
 have h2:=La.2
 refine⟨λK l=>?_,λ_ _=>rfl,λ_ _ _=>rfl,λK l=>?_,λ_ _=>rfl,λ_ _ _=>rfl⟩
 ·have:yX .str 1 (oJ l) objs (HK.mk:HK K)=((1:Nat)=1∧MF .str (l.map .str) (HK.mk:HK K)):=by cases l<;>rfl
  rw[this,h1];simp
 ·have:yX ak 1 (dV l) objs (HK.mk:HK K)=((1:Nat)=1∧MF ak (l.map ak) (HK.mk:HK K)):=by cases l<;>rfl
  rw[this,h2];simp
theorem strCells:∀x:List UInt8,∀c∈(PV.str x).cells,c.ref=false:=λx c h=>by simp only[PV.cells,List.mem_singleton]at h;subst h;rfl
theorem Lb:∀x:Vl,∀c∈(ak x).cells,c.ref=false:=λx c h=>by simp only[ak,PV.cells,List.mem_singleton]at h;subst h;rfl
theorem GN{a b c d:PV}(h1:eY a c)(h2:eY b d):∀(i:Nat) (p q:PV),[a,b][i]?=some p→[c,d][i]?=some q→eY p q:=λi p q hp hq=>by
 match i with
 | 0=>cases hp;cases hq;exact h1
 | 1=>cases hp;cases hq;exact h2
 | _+2=>simp at hp
def oq:fu:=λargs objs K=>match args with
 | [a,b]=>yX .str 1 a objs (HK.mk:HK λnames=>yX ak 1 b objs (HK.mk:HK λl=>names.length=l.length∧l.length≤1000000∧l.flatten.length≤1000000∧(∀v∈l,v≠[])∧K (.aW objs.length 0) (objs++[K_ (Qa names l) 0]) 2))
 | _=>False
theorem Bn:aQ Tryz.prog 78 oq:=by
 intro args objs K h
 unfold oq at h
 split at h
 ·obtain⟨names,a',l1,t1,h⟩:=qY strCells h
  obtain⟨l,b',l2,t2,h1,h2,h3,h4,h5⟩:=qY Lb h
  exact⟨_,_,_,.J8 0 _ [a',b'] ⟨l1,l2,trivial⟩ (xu _ _) ((Ro names l h1 h2 h3 h4).arg rfl (GN t1 t2)),h5⟩
 ·exact h.elim
end Lp
namespace Lp
open Go Go.Proofs
theorem N9{α:Type}{f:PV→PV}(enc:α→PV)(h:∀x,(enc x).bI f=enc x)(l:List α):(l.map enc).map (PV.bI f)=l.map enc:=by
 rw[List.map_map]
 exact List.map_congr_left λx _=>h x
end Lp
namespace Lp
open Go Go.Proofs
open List (mem_singleton)
theorem aX.YP {P:Program}{D:TypeId→ay}{T:Know}{f:FuncId}{n t u:Nat}{ty uy:TypeId}{C:LC}{args:List PV}{r:PV}(h:aX P f n [.cell t ty,.cell u uy] C)(d:Nat)(hD:∀t,eP P t (D t))(hT:r9 P none vT T)(hm:P.follows .mixedOrders=true)(ht:t<n)(hu:u<n)
  (hw:∀Q:Exit→St→Prop,(∀l ob,Q .ret ⟨dR n l,ob⟩=dK (D ty) (qQ l t) ob λp _ _=>dK (D uy) (qQ l u) ob λq _ _=>r=.bP [iH d 0 ob p,iH d 0 ob q])→gY P D T C Q (aU args n)):av P f args [] r []:=by
 refine h.pure d hD hT hm (by simp) (hw _ λl ob=>?_)
 simp only[yG,ku,tL.2.1 n l t ht,tL.2.1 n l u hu,List.map_cons,List.map_nil,gK]
def bD:Vl→Int
 | []=>0
 | n::_=>n.kind
def oM(v:Vl)(nm:List UInt8):Option Vl:=if bD v=6 then kg (jq v) nm else none
def eZ(v:Vl)(nm:List UInt8):Vl:=(oM v nm).getD []
def kE(v:Vl)(nm:List UInt8):Bool:=(oM v nm).isSome
def mZ(v:Vl)(nm:List UInt8):PV:=match oM v nm with
 | some x=>.bP [ak x,.bool true]
 | none=>.bP [.sl 0 [] (some true),.bool false]
theorem Uf{ps:List Vl}{nm:List UInt8}{i:Nat}{p:Vl}(h:ps[i]?=some p)(hp:nameOf p=nm)(hb:∀(j:Nat) q,j<i→ps[j]?=some q→nameOf q≠nm):kg (ps.map λp=>(nameOf p,gX p)) nm=some (gX p):=by
 have:(ps.map λp=>(nameOf p,gX p)).find? (λx=>decide (x.1=nm))=some (nameOf p,gX p):=by
  rw[List.find?_eq_some_iff_getElem]
  obtain⟨hi,he⟩:=List.getElem?_eq_some_iff.1 h
  refine⟨by simp[hp],i,by simpa using hi,by simp[he],λj hj=>?_⟩
  have:=hb j _ hj (List.getElem?_eq_getElem (by omega))
  simpa using this
 simp[kg,this]
theorem Rq{ps:List Vl}{nm:List UInt8}(hb:∀(j:Nat) q,ps[j]?=some q→nameOf q≠nm):kg (ps.map λp=>(nameOf p,gX p)) nm=none:=by
 rw[zJ]
 intro h
 simp only[List.map_map,List.mem_map,Function.comp]at h
 obtain⟨p,hp,rfl⟩:=h
 obtain⟨i,hi⟩:=List.mem_iff_getElem?.1 hp
 exact hb i p hi rfl
def Lc(nm:List UInt8)(x:PV)(b:Bool):List Obj:=[⟨9,1,[.str nm],true,1⟩,⟨23,1,[x],true,1⟩,⟨4,1,[.bool b],true,1⟩]
theorem bg.lt {O:List Obj}(h:bg O):bq O:=λo ho x hx c hc=>by
 have:=h o ho x hx c hc
 cases c<;>first | rfl | (simp[PV.ref]at this)
theorem GQ(nm:List UInt8){x:PV}(b:Bool)(h1:x.cells=[x])(h2:x.ref=false):bg (Lc nm x b++[sD,hole]):=by
 intro o ho y hy c hc
 simp only[Lc,List.cons_append,List.nil_append,List.mem_cons,List.not_mem_nil,or_false]at ho
 rcases ho with rfl | rfl | rfl | rfl | rfl
 ·simp only[mem_singleton]at hy;subst hy
  simp only[PV.cells,mem_singleton]at hc;subst hc;rfl
 ·simp only[mem_singleton]at hy;subst hy
  rw[h1]at hc
  simp only[mem_singleton]at hc;subst hc;exact h2
 ·simp only[mem_singleton]at hy;subst hy
  simp only[PV.cells,mem_singleton]at hc;subst hc;rfl
 ·cases hy
 ·cases hy
theorem PL(nm:List UInt8){x:PV}(b:Bool)(h1:x.cells=[x])(h2:x.ref=false):Gh 3 (Lc nm x b++[sD,hole]):=⟨Nat.le_refl _,(GQ nm b h1 h2).lt,rfl,rfl⟩
theorem N_(v:Vl)(nm:List UInt8)(hr:Rt v)(hl:v.length≤1000000):av Tryz.prog 56 [ak v,.str nm] [] (mZ v nm) []:=by
 refine KM.YP (T:=bH Tryz.prog [(80,jH)]) 1 hD (ax (af o8 au)) bM (by decide) (by decide) λQ hQ=>?_
 obtain⟨n,r,rfl,_⟩:=b_ hr.name hr.one.ne
 generalize hv:n::r=v at *
 have hg0:v[0]?=some n:=by rw[←hv];rfl
 have hkv:bD v=n.kind:=by rw[←hv];rfl
 by_cases hk:n.kind=6
 rotate_left 1
 ·have k6:(n.kind=6)=False:=eq_false hk
  have hres:mZ v nm=.bP [.sl 0 [] (some true),.bool false]:=by simp[mZ,oM,hkv,hk]
  (conv=>arg 4;cbv);simp (maxSteps:=400000) only[↓aI,aJ,BEq.rfl,seval,hQ,hg0,k6]
  exact⟨by decide,rfl,by decide,rfl,by rw[hres];rfl⟩
 have k6:(n.kind=6)=True:=eq_true hk
 obtain⟨ps,hP,YQ,hpl,hnm,hgv⟩:=qV v hr hl
 have YR:aS v=ps.map nameOf:=by
  rcases hnm with h | ⟨n',r',h1,h2⟩
  ·exact h
  ·rw[←hv]at h1;cases h1;exact absurd hk h2
 have Rs:jq v=ps.map λp=>(nameOf p,gX p):=by rw[jq,YR,hP,xX]
 (conv=>arg 4;cbv);simp (maxSteps:=400000) only[↓aI,aJ,BEq.rfl,seval,hQ,hg0,k6,↓jH]
 refine VO 107 [.addr (ak v)] (ps.map rowOf)
  (λi O=>(∀(j:Nat) q,j<i→ps[j]?=some q→nameOf q≠nm)∧i≤ps.length∧O=Lc nm (.sl 0 [] (some true)) false++[sD,hole])
  (λi O=>∃p,ps[i]?=some p∧nameOf p=nm∧(∀(j:Nat) q,j<i→ps[j]?=some q→nameOf q≠nm)∧O=Lc nm (ak (gX p)) true++[sD,hole]) .ret rfl rfl rfl rfl trivial hgv (vE ps) ⟨λj q h=>absurd h (Nat.not_lt_zero j),Nat.zero_le _,rfl⟩ ?_ ?_ ?_ ?_ ?_
 ·rintro i O ⟨_,_,rfl⟩
  exact PL nm false rfl rfl
 ·rintro i O ⟨p,_,_,_,rfl⟩
  exact⟨PL nm true rfl rfl,GQ nm true rfl rfl⟩
 ·rintro i args O ⟨hb,hi,rfl⟩ ha
  obtain⟨p,hpi,rfl⟩:=vF ha
  have hil:=(List.getElem?_eq_some_iff.1 hpi).1
  unfold Lc
  by_cases he:nameOf p=nm
  ·have he':(nameOf p=nm)=True:=eq_true he
   simp (maxSteps:=400000) only[↓aI,aJ,BEq.rfl,seval,hQ,iI,Sn,he']
   exact⟨rfl,p,hpi,he,hb,rfl⟩
  ·have he':(nameOf p=nm)=False:=eq_false he
   simp (maxSteps:=400000) only[↓aI,aJ,BEq.rfl,seval,hQ,iI,Sn,he']
   refine⟨λj q hj hq=>?_,by omega,rfl⟩
   rcases Nat.lt_or_ge j i with g | g
   ·exact hb j q g hq
   ·have:j=i:=by omega
    subst this
    rw[hpi]at hq;cases hq;exact he
 ·rintro O ⟨hb,hi,rfl⟩
  unfold Lc
  simp (maxSteps:=400000) only[↓aI,aJ,BEq.rfl,seval,hQ]
  have hres:mZ v nm=.bP [.sl 0 [] (some true),.bool false]:=by
   have:kg (jq v) nm=none:=by
    rw[Rs]
    refine Rq λj q hq=>hb j q ?_ hq
    rw[List.length_map]
    exact (List.getElem?_eq_some_iff.1 hq).1
   simp[mZ,oM,this]
  exact⟨by decide,rfl,by decide,rfl,by rw[hres];rfl⟩
 ·rintro i O hi ⟨p,hpi,he,hb,rfl⟩
  unfold Lc
  simp (maxSteps:=400000) only[↓aI,aJ,BEq.rfl,seval,hQ]
  have hres:mZ v nm=.bP [ak (gX p),.bool true]:=by
   have:kg (jq v) nm=some (gX p):=by rw[Rs];exact Uf hpi he hb
   simp[mZ,oM,hkv,hk,this]
  rw[hres]
  exact⟨_,_,rfl,rfl,rfl,rfl,Nat.le_refl _,rfl,_,_,rfl,rfl,rfl,rfl,Nat.le_refl _,rfl,rfl⟩
theorem Fb(v:Vl)(nm:List UInt8):eY (mZ v nm) (.bP [ak (eZ v nm),.bool (kE v nm)]):=by
 unfold mZ eZ kE
 split
 ·rename_i x h;rw[h];exact .refl _
 ·rename_i h;rw[h];exact Ai (.inr rfl) (ig 0 6) (.refl _)
theorem Ld(v:Vl)(nm:List UInt8)(hr:Rt v)(hl:v.length≤1000000):av Tryz.prog 56 [ak v,.str nm] [] (.bP [ak (eZ v nm),.bool (kE v nm)]) []:=(N_ v nm hr hl).res (Fb v nm)
def eF:fu:=λargs objs K=>match args with
 | [a0,.str nm]=>jF ak a0 (HK.mk:HK λv=>(Rt v)∧(v.length≤1000000)∧K (.bP [ak (eZ v nm),.bool (kE v nm)]) objs 0)
 | _=>False
theorem ug:aQ Tryz.prog 56 (eF):=by
 intro args objs K h
 unfold eF at h
 split at h
 ·rename_i a0 nm
  obtain⟨v,rfl,h1,h2,hk⟩:=h
  exact⟨_,_,_,.pure _ rfl (Ld v nm h1 h2),hk⟩
 ·exact h.elim
end Lp
namespace Lp
open Go Go.Proofs Go.RowKit Go.Sort
def o9(ss:List (List UInt8)):List (List UInt8):=ss.mergeSort λx y=>decide (x≤y)
theorem yY(ss:List (List UInt8)):(o9 ss).length=ss.length:=List.length_mergeSort _
end Lp
namespace Lp
open Go Go.Proofs Go.RowKit
end Lp
namespace Lp
open Go Go.Proofs
theorem Fe(P:Program)(D:TypeId→ay)(T:Know)(w pt:Bool)(ev:Operand→PV)(objs:List Obj)(K:KT) :
  (∀t x ix ok,jI P D T w pt ev objs (.lookup t x ix ok) K=iC D t (ev x) (ev ix) ok objs K)∧
  (∀t x y z,jI P D T w pt ev objs (.mapUpdate t x y z) K=dU D t (ev x) (ev y) (ev z) objs K)∧
  (∀t,jI P D T w pt ev objs (.makeMap t none) K=kI D t objs K):=⟨λ_ _ _ _=>rfl,λ_ _ _ _=>rfl,λ_=>rfl⟩
theorem Al(ti:ay):(∀i v,found ti (some (i,v)) true=.bP [v,.bool true])∧(∀i v,found ti (some (i,v)) false=v)∧(found ti none true=.bP [aG ti,.bool false])∧(found ti none false=aG ti):=⟨λ_ _=>rfl,λ_ _=>rfl,rfl,rfl⟩
end Lp
namespace Lp
open Go Go.Proofs
structure HKT (K:KT):Type where
end Lp
namespace Lp
open Go Go.Proofs
open Int (reduceEq)
def BJ(m e:Int):Bool:=decide (-1000≤e) && decide (e≤1000) && decide (m+e≤1000)
theorem IY(m e:Int)(hm:0≤m∧m≤1000000):av Tryz.prog 122 [.int .i64 m,.int .i64 e] [] (.bool (BJ m e)) []:=by
 refine EW.cZ (T:=bH Tryz.prog []) 0 hD (ax au) bM (by decide) λQ hQ=>?_
 rcases tf (-1000≤e) with h1 | h1
 rotate_left 1
 ·have hr:BJ m e=false:=by have:¬ (-1000≤e):=λh=>by rw[h1]at h;exact h
                           simp[BJ,this]
  (conv=>arg 4;cbv);simp (maxSteps:=400000) only[↓aI,aJ,BEq.rfl,seval,hQ,h1,hr]
 rcases tf (e≤1000) with h2 | h2
 rotate_left 1
 ·have hr:BJ m e=false:=by have:¬ (e≤1000):=λh=>by rw[h2]at h;exact h
                           simp[BJ,this]
  (conv=>arg 4;cbv);simp (maxSteps:=400000) only[↓aI,aJ,BEq.rfl,seval,hQ,h1,h2,hr]
 have h1':=of_eq_true h1
 have h2':=of_eq_true h2
 have hr:BJ m e=decide (m+e≤1000):=by simp[BJ,h1',h2']
 (conv=>arg 4;cbv);simp (maxSteps:=400000) only[↓aI,aJ,BEq.rfl,seval,hQ,h1,h2,hr]
 exact⟨by omega,by omega⟩
def jU:fu:=λargs objs K=>match args with
 | [.int .i64 m,.int .i64 e]=>(0≤m∧m≤1000000)∧K (.bool (BJ m e)) objs 0
 | _=>False
theorem Ff:aQ Tryz.prog 122 (jU):=by
 intro args objs K h
 unfold jU at h
 split at h
 ·rename_i m e
  obtain⟨h1,hk⟩:=h
  exact⟨_,_,_,.pure _ rfl (IY m e h1),hk⟩
 ·exact h.elim
theorem DV(s:List UInt8)(hs:s.length≤4611686018427387904):av Tryz.prog 123 [.str s] [] (.bool (rZ s)) []:=by
 refine BH.cZ (T:=bH Tryz.prog [(132,qW)]) 0 hD (ax (af Fa au)) bM (by decide) λQ hQ=>?_
 have hf:=NV s
 (conv=>arg 4;cbv);simp (maxSteps:=400000) only[↓aI,aJ,BEq.rfl,seval,hQ,↓qW]
 refine⟨hs,?_⟩
 rw[Bool.eq_iff_iff,←hf,decide_eq_true_iff]
 constructor
 ·intro h;rw[h]
 ·intro h
  generalize Lib.trimF kD ⟨⟨s⟩⟩=t at h
  obtain⟨⟨t⟩⟩:=t
  have h':t=[]:=h
  rw[h']
def jl:fu:=λargs objs K=>match args with
 | [.str s]=>(s.length≤4611686018427387904)∧K (.bool (rZ s)) objs 0
 | _=>False
theorem BK:aQ Tryz.prog 123 (jl):=by
 intro args objs K h
 unfold jl at h
 split at h
 ·rename_i s
  obtain⟨h1,hk⟩:=h
  exact⟨_,_,_,.pure _ rfl (DV s h1),hk⟩
 ·exact h.elim
theorem Ru(n:Nd)(hk:n.kind=3)(hn:n.name=[])(hs:n.s.length≤4611686018427387904):av Tryz.prog 101 [aM n] [] (.bool (xS n)) []:=by
 refine KJ.cZ (T:=bH Tryz.prog [(122,jU),(123,jl),(124,yU)]) 0 hD (ax (af Ff (af BK (af K7 au)))) bM (by decide) λQ hQ=>?_
 (conv=>arg 4;cbv);simp (maxSteps:=400000) only[↓aI,aJ,BEq.rfl,seval,hQ]
 refine aY _ (Weak.freeze 1 0 (Nat.le_refl _) _) ?_
 have key:=yS n
 have hpw:∀b,BJ n.s.length n.e=b→(b=true↔-1000≤n.e∧n.e≤1000∧n.s.length+n.e≤1000):=λb hb=>by
  rw[←hb];simp[BJ,and_assoc]
 cases hp:BJ n.s.length n.e
 ·have hr:xS n=false:=gG λh=>by
    have g:=(hpw _ hp).2 ⟨(key.1 h).2.2.2.1,(key.1 h).2.2.2.2.1,(key.1 h).2.2.2.2.2.1⟩
    cases g
  simp (maxSteps:=400000) only[↓aI,aJ,BEq.rfl,seval,hQ,oo,↓jU,hk,hn,reduceEq,hp,hr]
  refine λh0 h1=>⟨by omega,by omega⟩
 have Ug:=(hpw _ hp).1 rfl
 cases hf:rZ n.s
 ·have hr:xS n=false:=gG λh=>by have:=(key.1 h).2.1;rw[hf]at this;cases this
  simp (maxSteps:=400000) only[↓aI,aJ,BEq.rfl,seval,hQ,oo,↓jU,↓jl,hk,hn,reduceEq,hp,hf,hr]
  refine λh0 h1=>⟨⟨by omega,by omega⟩,hs⟩
 by_cases hz:n.s=[]
 ·rw[if_pos hz]at key
  have hf0:rZ []=true:=rfl
  rw[hz]at hp key
  have hp0:BJ 0 n.e=true:=hp
  simp (maxSteps:=400000) only[↓aI,aJ,BEq.rfl,seval,hQ,oo,↓jU,↓jl,hk,hn,reduceEq,hp0,hf0,hz]
  refine⟨λh0=>⟨λYI=>?_,λYI=>?_⟩,λh0=>gG λhb=>h0 (key.1 hb).1⟩
  ·exact gG λhb=>by have:=(key.1 hb).2.2.2.2.2.2.1;rw[YI]at this;cases this
  ·rw[Bool.eq_iff_iff,decide_eq_true_iff,key]
   refine⟨λh=>h.2.2.2.2.2.2.2,λh=>⟨h0,rfl,by simp,Ug.1,Ug.2.1,by simp;omega,by simpa using YI,h⟩⟩
 ·rw[if_neg hz]at key
  have htr:=NW n.s 48
  have hz':(n.s=[])=False:=eq_false hz
  simp (maxSteps:=400000) only[↓aI,aJ,BEq.rfl,seval,hQ,oo,↓jU,↓jl,↓yU,hk,hn,reduceEq,hp,hf,hz']
  refine⟨λh0=>⟨λh=>gG λhb=>?_,λh1=>⟨⟨by omega,by omega⟩,hs,hs,?_⟩⟩,λh0=>gG λhb=>h0 (key.1 hb).1⟩
  ·have:=key.1 hb;omega
  ·rw[Bool.eq_iff_iff,decide_eq_true_iff,key,htr]
   exact⟨λh=>h.2.2.2.2.2.2,λh=>⟨h0,hf,by omega,Ug.1,Ug.2.1,Ug.2.2,h⟩⟩
def kR:fu:=λargs objs K=>match args with
 | [a0]=>jF aM a0 (HK.mk:HK λn=>(n.kind=3)∧(n.name=[])∧(n.s.length≤4611686018427387904)∧K (.bool (xS n)) objs 0)
 | _=>False
theorem Oa:aQ Tryz.prog 101 (kR):=by
 intro args objs K h
 unfold kR at h
 split at h
 ·rename_i a0
  obtain⟨n,rfl,h1,h2,h3,hk⟩:=h
  exact⟨_,_,_,.pure _ rfl (Ru n h1 h2 h3),hk⟩
 ·exact h.elim
theorem IZ(n:Nd)(hl:n.s.length≤4611686018427387904):av Tryz.prog 73 [aM n] [] (.bool (bE n)) []:=by
 refine EU.cZ (T:=bH Tryz.prog [(71,bS),(101,kR)]) 0 hD (ax (af qX (af Oa au))) bM (by decide) λQ hQ=>?_
 (conv=>arg 4;cbv);simp (maxSteps:=400000) only[↓aI,aJ,BEq.rfl,seval,hQ,nmP,aaB]
 refine aY _ (Weak.freeze 1 0 (Nat.le_refl _) _) ?_
 have hn0:∀h,fB 1 0 [⟨46,6,[aM { kind:=n.kind,many:=n.many,name:=[],s:=n.s,neg:=n.neg,e:=n.e }],true,1⟩] (.aT 0 1 0 0)=h→.addr (aM ⟨n.kind,n.many,[],n.s,n.neg,n.e⟩)=h:=λ_ h=>h
 have h8:n.kind=0∨n.kind=1∨n.kind=2∨n.kind=3∨n.kind=4∨n.kind=5∨n.kind=6∨(n.kind≠0∧n.kind≠1∧n.kind≠2∧n.kind≠3∧n.kind≠4∧n.kind≠5∧n.kind≠6):=by omega
 rcases h8 with hk | hk | hk | hk | hk | hk | hk | ⟨k0,k1,k2,k3,k4,k5,k6⟩
 ·simp (maxSteps:=400000) only[↓aI,aJ,BEq.rfl,seval,hQ,oo,↓bS,↓kR,hk,reduceEq]
  rw[Bool.eq_iff_iff]
  simp[bE,hk,and_assoc]
 ·simp (maxSteps:=400000) only[↓aI,aJ,BEq.rfl,seval,hQ,oo,↓bS,↓kR,hk,reduceEq]
  rw[Bool.eq_iff_iff]
  simp[bE,hk,and_assoc]
 ·simp (maxSteps:=400000) only[↓aI,aJ,BEq.rfl,seval,hQ,oo,↓bS,↓kR,hk,reduceEq]
  rw[Bool.eq_iff_iff]
  simp[bE,hk,and_assoc]
 ·simp (maxSteps:=400000) only[↓aI,aJ,BEq.rfl,seval,hQ,oo,↓bS,↓kR,hk,reduceEq]
  refine⟨hl,?_⟩
  simp[bE,hk,xS]
 ·simp (maxSteps:=400000) only[↓aI,aJ,BEq.rfl,seval,hQ,oo,↓bS,↓kR,hk,reduceEq]
  refine⟨hl,?_⟩
  cases hu:utf n.s
  ·simp[wX,bE,hk,hu]
  ·simp only[Yx]
   rw[Bool.eq_iff_iff]
   simp[bE,hk,hu,and_assoc]
 ·simp (maxSteps:=400000) only[↓aI,aJ,BEq.rfl,seval,hQ,oo,↓bS,↓kR,hk,reduceEq]
  refine⟨λhm=>?_,λhm=>?_⟩
  ·rw[Bool.eq_iff_iff]
   simp[bE,hk,hm,and_assoc]
  ·simp[bE,hk,hm]
 ·simp (maxSteps:=400000) only[↓aI,aJ,BEq.rfl,seval,hQ,oo,↓bS,↓kR,hk,reduceEq]
  refine⟨λhm=>?_,λhm=>?_⟩
  ·rw[Bool.eq_iff_iff]
   simp[bE,hk,hm,and_assoc]
  ·simp[bE,hk,hm]
 ·simp (maxSteps:=400000) only[↓aI,aJ,BEq.rfl,seval,hQ,oo,↓bS,↓kR,k0,k1,k2,k3,k4,k5,k6]
  simp[bE,k0,k1,k2,k3,k4,k5,k6]
def dW:fu:=λargs objs K=>match args with
 | [a0]=>jF aM a0 (HK.mk:HK λn=>(n.s.length≤4611686018427387904)∧K (.bool (bE n)) objs 0)
 | _=>False
theorem Fg:aQ Tryz.prog 73 (dW):=by
 intro args objs K h
 unfold dW at h
 split at h
 ·rename_i a0
  obtain⟨n,rfl,h1,hk⟩:=h
  exact⟨_,_,_,.pure _ rfl (IZ n h1),hk⟩
 ·exact h.elim
end Lp
namespace Lp
open Go Go.Proofs
open List (length_reverse map_cons map_map map_nil take_zero)
def fK(o:xQ):PV:=.agg [.int .i64 o.kind,.int .i64 o.left,.bool o.first,.str o.last]
def yZ(l:List xQ):PV:=.sl 4 (l.map fK) none
theorem DW:∀a b,fK a=fK b→a=b:=by
 intro a b h
 cases a;cases b
 simp only[fK,PV.agg.injEq,List.cons.injEq,PV.int.injEq,PV.str.injEq,PV.bool.injEq,true_and,and_true]at h
 obtain⟨rfl,rfl,rfl,rfl⟩:=h
 rfl
theorem Am :
  (∀o,(fK o).cells=[.int .i64 o.kind,.int .i64 o.left,.bool o.first,.str o.last])∧(∀o,(fK o).isAgg=true)∧(∀o,(fK o).pure=true)∧(∀d m O o,fB d m O (fK o)=fK o)∧(∀d m O o,iH d m O (fK o)=fK o)∧type_of% (aR DW):=
 ⟨λ_=>rfl,λ_=>rfl,λ_=>rfl,λ_ _ _ _=>rfl,λ_ _ _ _=>rfl,aR DW⟩
theorem hO:∀l,yZ l=.sl 4 (l.map fK) none:=λ_=>rfl
theorem GR:∀a b,yZ a=yZ b→a=b:=o6 hO DW
theorem inO:wF fK:=by intro d n o x;cases d<;>rfl
theorem Uh:type_of% Am∧type_of% (vX hO)∧type_of% (kz hO)∧type_of% (vY hO)∧type_of% (aR GR)∧type_of% (iw hO inO):=
 ⟨Am,vX hO,kz hO,vY hO,aR GR,iw hO inO⟩
def uh(o:xQ):Bool:=decide (0<o.left)
theorem Ob(o:xQ):av Tryz.prog 75 [fK o] [] (.bool (uh o)) []:=by
 unfold uh
 refine EX.cZ (T:=bH Tryz.prog []) 0 hD (ax au) bM (by decide) λQ hQ=>?_
 (conv=>arg 4;cbv);simp (maxSteps:=400000) only[↓aI,aJ,BEq.rfl,seval,hQ,fK]
def uj:fu:=λargs objs K=>match args with
 | [a0]=>jF fK a0 (HK.mk:HK λo=>K (.bool (uh o)) objs 0)
 | _=>False
theorem Lf:aQ Tryz.prog 75 (uj):=by
 intro args objs K h
 unfold uj at h
 split at h
 ·rename_i a0
  obtain⟨o,rfl,hk⟩:=h
  exact⟨_,_,_,.pure _ rfl (Ob o),hk⟩
 ·exact h.elim
def idxOf{α:Type}(p:α→Bool)(l:List α):Int:=match l.findIdx? p with
 | some i=>i
 | none=>-1
theorem idxOf_hit{α:Type}{p:α→Bool}{l:List α}{i:Nat}{x:α}(h:l[i]?=some x)(hx:p x=true)(hb:∀(j:Nat) y,j<i→l[j]?=some y→p y=false):idxOf p l=i:=by
 have:l.findIdx? p=some i:=by
  rw[List.findIdx?_eq_some_iff_getElem]
  obtain⟨hi,he⟩:=List.getElem?_eq_some_iff.1 h
  refine⟨hi,by rw[he];exact hx,λj hj=>?_⟩
  have:=hb j _ hj (List.getElem?_eq_getElem (by omega))
  simp[this]
 simp[idxOf,this]
theorem xw{α:Type}{p:α→Bool}{l:List α}(hb:∀(j:Nat) y,l[j]?=some y→p y=false):idxOf p l=-1:=by
 have:l.findIdx? p=none:=by
  rw[List.findIdx?_eq_none_iff]
  intro x hx
  obtain⟨i,hi⟩:=List.mem_iff_getElem?.1 hx
  exact hb i x hi
 simp[idxOf,this]
theorem Ao{α:Type}(p:α→Bool)(l:List α):decide (0≤idxOf p l)=l.any p:=by
 rw[Bool.eq_iff_iff,decide_eq_true_iff]
 cases h:l.findIdx? p with
 | none=>
  rw[List.findIdx?_eq_none_iff]at h
  have:l.any p=false:=by rw[List.any_eq_false];intro x hx;simp[h x hx]
  simp[idxOf,List.findIdx?_eq_none_iff.2 h,this]
 | some i=>
  have h':=h
  rw[List.findIdx?_eq_some_iff_getElem]at h'
  obtain⟨hi,hp,_⟩:=h'
  have:l.any p=true:=List.any_eq_true.2 ⟨_,List.getElem_mem hi,hp⟩
  simp[idxOf,h,this]
theorem I4(l:List xQ)(hl:l.length≤4611686018427387904):av Tryz.prog 102 [yZ l,.fn 75 [] []] [] (.int .i64 (idxOf uh l)) []:=by
 refine iJ.cZ (T:=bH Tryz.prog [(75,uj)]) 0 hD (ax (af Lf au)) bM (by decide) λQ hQ=>?_
 (conv=>arg 4;cbv);simp (maxSteps:=400000) only[↓aI,aJ,BEq.rfl,seval,hQ,Uh]
 refine bA (λm S=>∃i:Nat,i+m=l.length∧(∀(j:Nat) y,j<i→l[j]?=some y→uh y=false)∧S=⟨dR 19 [(0,yZ l),(1,.fn 75 [] []),(7,.int .i64 l.length),(8,.int .i64 i)],[]⟩) l.length ⟨0,by omega,λj y h=>absurd h (Nat.not_lt_zero j),?_⟩ ?_
 ·simp only[dX,keepR,Nat.reduceAdd,tK,Nat.reduceBEq,map_nil]
  rfl
 rintro m S ⟨i,him,hb,rfl⟩
 rcases Nat.lt_or_ge i l.length with h | h
 rotate_left 1
 ·have hlt:((i:Int)<(l.length:Int))=False:=eq_false (by omega)
  have hr:=xw (l:=l) λj y hj=>hb j y (by have:=(List.getElem?_eq_some_iff.1 hj).1;omega) hj
  simp (maxSteps:=400000) only[↓aI,aJ,BEq.rfl,seval,hQ,hlt,hr]
 have hlt:((i:Int)<(l.length:Int))=True:=eq_true (by omega)
 have zi:(0≤(i:Int))=True:=eq_true (by omega)
 have hgi:=List.getElem?_eq_getElem h
 generalize l[i]=o at hgi
 cases hp:uh o
 rotate_left 1
 ·have hr:idxOf uh l=i:=idxOf_hit hgi hp hb
  simp (maxSteps:=400000) only[↓aI,aJ,BEq.rfl,seval,hQ,hlt,zi,Uh,hgi,↓uj,hp,hr]
 ·simp (maxSteps:=400000) only[↓aI,aJ,BEq.rfl,seval,hQ,hlt,zi,Uh,hgi,↓uj,hp]
  refine⟨⟨by omega,by omega⟩,m-1,by omega,i+1,by omega,λj y hj hy=>?_,rfl⟩
  rcases Nat.lt_or_ge j i with g | g
  ·exact hb j y g hy
  ·have:j=i:=by omega
   subst this
   rw[hgi]at hy;cases hy
   exact hp
def qZ:fu:=λargs objs K=>match args with
 | [a0,a1]=>jF yZ a0 (HK.mk:HK λl=>a1=(.fn 75 [] [])∧(l.length≤4611686018427387904)∧K (.int .i64 (idxOf uh l)) objs 0)
 | _=>False
theorem Fh:aQ Tryz.prog 102 (qZ):=by
 intro args objs K h
 unfold qZ at h
 split at h
 ·rename_i a0 a1
  obtain⟨l,rfl,rfl,h1,hk⟩:=h
  exact⟨_,_,_,.pure _ rfl (I4 l h1),hk⟩
 ·exact h.elim
theorem I5(l:List xQ)(hl:l.length≤4611686018427387904):av Tryz.prog 74 [yZ l,.fn 75 [] []] [] (.bool (l.any uh)) []:=by
 refine gU.cZ (T:=bH Tryz.prog [(102,qZ)]) 0 hD (ax (af Fh au)) bM (by decide) λQ hQ=>?_
 (conv=>arg 4;cbv);simp (maxSteps:=400000) only[↓aI,aJ,BEq.rfl,seval,hQ,Uh,↓qZ,Ao]
 exact hl
def q8:fu:=λargs objs K=>match args with
 | [a0,a1]=>jF yZ a0 (HK.mk:HK λl=>a1=(.fn 75 [] [])∧(l.length≤4611686018427387904)∧K (.bool (l.any uh)) objs 0)
 | _=>False
theorem Fj:aQ Tryz.prog 74 (q8):=by
 intro args objs K h
 unfold q8 at h
 split at h
 ·rename_i a0 a1
  obtain⟨l,rfl,rfl,h1,hk⟩:=h
  exact⟨_,_,_,.pure _ rfl (I5 l h1),hk⟩
 ·exact h.elim
theorem l7(objs:List Obj)(K:KT) :
  (∀k m,cO D 85 [(0,.int .i64 k),(1,.int .i64 m)] objs K=K (fK ⟨k,m,false,[]⟩) objs 0)∧
  (∀k m b,cO D 85 [(0,.int .i64 k),(1,.int .i64 m),(2,.bool b)] objs K=K (fK ⟨k,m,b,[]⟩) objs 0):=by
 have z:aG (D 85)=fK ⟨0,0,false,[]⟩:=by kernel_rfl
 have a:(D 85).agg=true:=by kernel_rfl
 simp only[dL]at z a
 refine⟨λk m=>?_,λk m b=>?_⟩
 all_goals
  simp[cO,mr,a,z,dL,mO,fK,PV.isAgg,sK,PV.cells,PV.storable,PV.lg,PV.pure]
theorem XK:(PV.uR (Value.agg { toList:=[Value.int IntKind.i64 0,Value.int IntKind.i64 0,Value.bool false,Value.string { data:={ toList:=[] } }] })).cells.length=4:=rfl
theorem XL:(PV.uR (Value.agg { toList:=[Value.int IntKind.i64 0,Value.int IntKind.i64 0,Value.bool false,Value.string { data:={ toList:=[] } }] })).cells.all PV.storable=true:=rfl
def Lg(s:List xQ)(ver:Nat):Obj:=⟨85,4,s.reverse.map fK,true,ver⟩
theorem xC:(∀(o:xQ) (m:Int),(fK o).putCells 1 [.int .i64 m]=fK { o with left:=m })∧(∀(o:xQ) (b:Bool),(fK o).putCells 2 [.bool b]=fK { o with first:=b })∧(∀(o:xQ) (t:List UInt8),(fK o).putCells 3 [.str t]=fK { o with last:=t }):=⟨λ_ _=>rfl,λ_ _=>rfl,λ_ _=>rfl⟩
theorem DX(d n:Nat)(O:List Obj)(t:TypeId)(sz:Nat)(l:List xQ)(ver:Nat):eO d n O ⟨t,sz,l.map fK,true,ver⟩=⟨t,sz,l.map fK,true,ver⟩:=by
 have:(l.map fK).map (PV.bI (fB d n O))=l.map fK:=by
  rw[map_map]
  exact List.map_congr_left λx _=>rfl
 simp only[eO,this]
theorem Fp(v:Vl)(hs:Small v):av Tryz.prog 49 [ak v] [] (.bool (bK v)) []:=by
 have hl:=hs.len
 refine KL.cZ (T:=bH Tryz.prog [(73,dW),(71,bS),(74,q8)]) 1 hD (ax (af Fg (af qX (af Fj au)))) bM (by decide) λQ hQ=>?_
 (conv=>arg 4;cbv);simp (maxSteps:=400000) only[↓aI,aJ,BEq.rfl,seval,hQ,YN,YO,l7,XK,XL,Am]
 refine bA (λm S=>∃(s:List xQ) (i ver:Nat),i+m=v.length∧Cu v.length s (v.drop i)=bK v∧s.length≤i+1∧(∀o∈s,0≤o.left∧o.left≤1000000)∧S=⟨dR 123 [(0,ak v),(3,.aW 0 ver),(10,ak v),(11,.int .i64 v.length),(12,.int .i64 i)],[Lg s ver]⟩) v.length
  ⟨[⟨5,1,false,[]⟩],0,1,by omega,ML v,by simp,by simp,?_⟩ ?_ (hz:=Nat.zero_le _)
 ·simp only[dX,keepR,Nat.reduceAdd,tK,Nat.reduceBEq,map_nil]
  rfl
 rintro m S ⟨s,i,ver,him,hrun,hsl,hle,rfl⟩
 rcases Nat.lt_or_ge i v.length with h | h
 rotate_left 1
 ·have hlt:((i:Int)<(v.length:Int))=False:=eq_false (by omega)
  have hr:bK v=Bool.not (s.any uh):=by
   rw[←hrun,List.drop_eq_nil_of_le h,Cu];rfl
  have hf:fB 1 0 [⟨85,4,s.reverse.map fK,true,ver⟩] (.aW 0 ver)=yZ s.reverse:=by
   simp only[fB,Nat.not_lt_zero,if_false,kr,List.getElem?_cons_zero,Nat.le_refl,decide_true,Bool.true_and,beq_self_eq_true,if_true]
   rw[map_map]
   rfl
  unfold Lg
  simp (maxSteps:=400000) only[↓aI,aJ,BEq.rfl,seval,hQ,hlt]
  refine aY _ (Weak.freeze 1 0 (Nat.zero_le _) _) ?_
  rcases Nat.eq_zero_or_pos v.length with h0 | h0
  ·have h0':((0:Int)<(v.length:Int))=False:=eq_false (by omega)
   have hrf:bK v=false:=by
    have:v=[]:=List.length_eq_zero_iff.1 h0
    rw[this];rfl
   simp (maxSteps:=400000) only[↓aI,aJ,BEq.rfl,seval,hQ,h0',hrf]
  ·have h0':((0:Int)<(v.length:Int))=True:=eq_true (by omega)
   simp (maxSteps:=400000) only[↓aI,aJ,BEq.rfl,seval,hQ,h0',hf,Uh,↓q8]
   exact⟨by rw[length_reverse];omega,by rw[hr,List.any_reverse]⟩
 have hlt:((i:Int)<(v.length:Int))=True:=eq_true (by omega)
 have zi:(0≤(i:Int))=True:=eq_true (by omega)
 have hgi:=List.getElem?_eq_getElem h
 have hdi:=List.drop_eq_getElem_cons h
 have htx:=hs.txt _ (List.getElem_mem h)
 generalize v[i]=n at hgi hdi htx
 simp (maxSteps:=400000) only[↓aI,aJ,BEq.rfl,seval,hQ,hlt,zi,hgi,YN,YO,XI,XJ]
 rw[hdi]at hrun
 have hll:(n.many≤(v.length:Int))=(n.many≤(v.length:Int)):=rfl
 refine bA (λm' S=>∃(s':List xQ) (Oc:Nat),s'.length=m'∧s'.dropWhile (λo=>o.left==0)=s.dropWhile (λo=>o.left==0)∧s'.length≤i+1∧(∀o∈s',0≤o.left∧o.left≤1000000)∧
  S=⟨dR 123 [(0,ak v),(3,.aW 0 Oc),(5,.aT 1 1 0 0),(10,ak v),(11,.int .i64 v.length),(12,.int .i64 i)],[Lg s' Oc,⟨46,6,[aM n],true,1⟩]⟩) s.length ⟨s,ver,rfl,rfl,hsl,hle,?_⟩ ?_
 ·simp only[dX,keepR,Nat.reduceAdd,tK,Nat.reduceBEq,map_nil]
 rintro m' S ⟨s',Oc,hm',hdw,abJ,hle',rfl⟩
 cases s' with
 | nil=>
  have h00:((0:Int)<((0:Nat):Int))=False:=eq_false (by omega)
  have h01:(((0:Nat):Int)=0)=True:=eq_true rfl
  have hr:bK v=false:=by rw[←hrun,Cu,←hdw];rfl
  unfold Lg
  simp (maxSteps:=400000) only[↓aI,aJ,BEq.rfl,seval,hQ,h00,h01,hr,List.reverse_nil]
 | cons o t=>
 have hst:∀w,Lg (o::t) w=⟨85,4,t.reverse.map fK++[fK o],true,w⟩:=λw=>by simp[Lg]
 have hget:∀x:PV,(t.reverse.map fK++[x])[t.length]?=some x:=λx=>by rw[List.getElem?_append_right (by simp)];simp
 have hset:∀x y:PV,(t.reverse.map fK++[x]).set t.length y=t.reverse.map fK++[y]:=λx y=>by rw[List.set_append_right _ _ (by simp)];simp
 have hpos:((0:Int)<((t.length+1:Nat):Int))=True:=eq_true (by omega)
 have hne0:(((t.length+1:Nat):Int)=0)=False:=eq_false (by omega)
 have t1:(((t.length+1:Nat):Int)-1).toNat=t.length:=by omega
 have z1:(0≤((t.length+1:Nat):Int)-1)=True:=eq_true (by omega)
 have U5:(((t.length+1:Nat):Int)-1<((t.length+1:Nat):Int))=True:=eq_true (by omega)
 have U6:(((t.length+1:Nat):Int)-1≤((t.length+1:Nat):Int))=True:=eq_true (by omega)
 simp only[List.length_cons]at abJ hm'
 have i1:(-9223372036854775808≤((t.length+1:Nat):Int)-1∧((t.length+1:Nat):Int)-1≤9223372036854775807)=True:=eq_true ⟨by omega,by omega⟩
 have hlo:=hle' o (by simp)
 by_cases h0:o.left=0
 ·have h0':(o.left=0)=True:=eq_true h0
  rw[hst]
  simp (maxSteps:=400000) only[↓aI,aJ,BEq.rfl,seval,hQ,hpos,t1,z1,U5,U6,i1,hget,hset,h0',Am,length_reverse]
  refine⟨m'-1,by omega,t,Oc+1,by omega,?_,by omega,λx hx=>hle' x (List.mem_cons_of_mem _ hx),?_⟩
  ·rw[←hdw];exact (List.dropWhile_cons_of_pos (by simpa using h0)).symm
  ·rw[List.take_left' (by simp)];rfl
 have h0':(o.left=0)=False:=eq_false h0
 have abK:s.dropWhile (λo=>o.left==0)=o::t:=by rw[←hdw];exact List.dropWhile_cons_of_neg (by simpa using h0)
 have hstep:bK v=(bE n && decide (n.many≤v.length) && dM o n.name && Cu v.length (⟨n.kind,n.many,true,[]⟩::⟨o.kind,o.left-1,false,n.name⟩::t) (v.drop (i+1))):=by
  rw[←hrun,Cu,abK]
 rw[hst]
 cases hpl:bE n
 ·have hr:bK v=false:=by rw[hstep,hpl];rfl
  simp (maxSteps:=400000) only[↓aI,aJ,BEq.rfl,seval,hQ,hpos,hne0,t1,z1,U5,U6,i1,hget,hset,h0',Am,length_reverse,↓dW,hpl,hr]
  exact htx.1
 by_cases hmL:n.many≤v.length
 rotate_left 1
 ·have I6:((v.length:Int)<n.many)=True:=eq_true (by omega)
  have hr:bK v=false:=by rw[hstep,decide_eq_false hmL];simp
  simp (maxSteps:=400000) only[↓aI,aJ,BEq.rfl,seval,hQ,hpos,hne0,t1,z1,U5,U6,i1,hget,hset,h0',Am,length_reverse,↓dW,hpl,I6,hr]
  exact htx.1
 have I6:((v.length:Int)<n.many)=False:=eq_false (by omega)
 have hm0:0≤n.many:=by
  by_cases hk:n.kind=5∨n.kind=6
  ·exact (pY hpl hk).1
  ·rw[qy hpl hk];exact Int.le_refl 0
 have hA:∀x y:xQ,t.reverse.map fK++[fK x]++[fK y]=(t.reverse++[x,y]).map fK:=λx y=>by simp
 have fin:∀hn:dM o n.name=true,∃aaC,aaC<m∧∃(s:List xQ) (XF ver:Nat),XF+aaC=v.length∧Cu v.length s (v.drop XF)=bK v∧s.length≤XF+1∧(∀o∈s,0≤o.left∧o.left≤1000000)∧
     (⟨dR 123 [(0,ak v),(3,.aW 0 (Oc+1)),(10,ak v),(11,.int .i64 v.length),(12,.int .i64 ((i:Int)+1))],[⟨85,4,t.reverse.map fK++[fK ⟨o.kind,o.left-1,false,n.name⟩]++[fK ⟨n.kind,n.many,true,[]⟩],true,Oc+1⟩]⟩:St)=
     ⟨dR 123 [(0,ak v),(3,.aW 0 ver),(10,ak v),(11,.int .i64 v.length),(12,.int .i64 XF)],[Lg s ver]⟩:=λhn=>by
  refine⟨m-1,by omega,⟨n.kind,n.many,true,[]⟩::⟨o.kind,o.left-1,false,n.name⟩::t,i+1,Oc+1,by omega,?_,by simp only[List.length_cons];omega,λx hx=>?_,?_⟩
  ·rw[hstep,hpl,hn,decide_eq_true hmL];simp
  ·rcases List.mem_cons.1 hx with rfl | hx
   ·exact⟨hm0,by simp only;omega⟩
   ·rcases List.mem_cons.1 hx with rfl | hx
    ·simp only;omega
    ·exact hle' x (List.mem_cons_of_mem _ hx)
  ·simp[Lg]
 by_cases k6:o.kind=6
 rotate_left 1
 ·have XM:(o.kind=6)=False:=eq_false k6
  by_cases hnm:n.name=[]
  rotate_left 1
  ·have hnm':(n.name=[])=False:=eq_false hnm
   have hr:bK v=false:=by
    have:dM o n.name=false:=by simp[dM,k6,hnm]
    rw[hstep,this];simp
   simp (maxSteps:=400000) only[↓aI,aJ,BEq.rfl,seval,hQ,hpos,hne0,t1,z1,U5,U6,i1,hget,hset,h0',Am,length_reverse,↓dW,hpl,I6,XM,bX,xC,l7,XK,XL,hnm',hr]
   exact htx.1
  ·have hnm':(n.name=[])=True:=eq_true hnm
   simp (maxSteps:=400000) only[↓aI,aJ,BEq.rfl,seval,hQ,hpos,hne0,t1,z1,U5,U6,i1,hget,hset,h0',Am,length_reverse,↓dW,hpl,I6,XM,bX,xC,l7,XK,XL,hnm']
   have hn:dM o n.name=true:=by simp[dM,k6,hnm]
   obtain⟨m1,e0,s1,j1,w1,e1,e2,e3,e4,e5⟩:=fin hn
   refine⟨htx.1,⟨by omega,by omega⟩,rfl,by omega,by omega,⟨by omega,by omega⟩,m1,e0,s1,j1,w1,e1,e2,e3,e4,?_⟩
   rw[←e5]
   simp only[hA,List.take_succ_cons,take_zero,map_cons (f:=eO _ _ _),map_nil,DX]
   rfl
 have XM:(o.kind=6)=True:=eq_true k6
 cases hu:utf n.name
 ·have hr:bK v=false:=by
    have:dM o n.name=false:=by simp[dM,k6,hu]
    rw[hstep,this];simp
  simp (maxSteps:=400000) only[↓aI,aJ,BEq.rfl,seval,hQ,hpos,hne0,t1,z1,U5,U6,i1,hget,hset,h0',Am,length_reverse,↓dW,hpl,I6,XM,bX,xC,l7,XK,XL,↓bS,hu,hr]
  exact⟨htx.1,htx.2⟩
 cases hfst:o.first
 rotate_left 1
 ·have hn:dM o n.name=true:=by simp[dM,k6,hu,hfst]
  simp (maxSteps:=400000) only[↓aI,aJ,BEq.rfl,seval,hQ,hpos,hne0,t1,z1,U5,U6,i1,hget,hset,h0',Am,length_reverse,↓dW,hpl,I6,XM,bX,xC,l7,XK,XL,↓bS,hu,hfst]
  obtain⟨m1,e0,s1,j1,w1,e1,e2,e3,e4,e5⟩:=fin hn
  refine⟨htx.1,htx.2,⟨by omega,by omega⟩,rfl,by omega,by omega,⟨by omega,by omega⟩,m1,e0,s1,j1,w1,e1,e2,e3,e4,?_⟩
  rw[←e5]
  simp only[hA,List.take_succ_cons,take_zero,map_cons (f:=eO _ _ _),map_nil,DX]
  rfl
 cases hbl:Op.bytesLess n.name o.last
 rotate_left 1
 ·have hr:bK v=false:=by
    have:dM o n.name=false:=by simp[dM,k6,hu,hfst,JI _ _ hbl]
    rw[hstep,this];simp
  simp (maxSteps:=400000) only[↓aI,aJ,BEq.rfl,seval,hQ,hpos,hne0,t1,z1,U5,U6,i1,hget,hset,h0',Am,length_reverse,↓dW,hpl,I6,XM,bX,xC,l7,XK,XL,↓bS,hu,hfst,hbl,hr]
  exact⟨htx.1,htx.2⟩
 by_cases heq:n.name=o.last
 ·have heq':(n.name=o.last)=True:=eq_true heq
  have hr:bK v=false:=by
   have:dM o n.name=false:=by simp[dM,k6,hu,hfst,heq,nk]
   rw[hstep,this];simp
  simp (maxSteps:=400000) only[↓aI,aJ,BEq.rfl,seval,hQ,hpos,hne0,t1,z1,U5,U6,i1,hget,hset,h0',Am,length_reverse,↓dW,hpl,I6,XM,bX,xC,l7,XK,XL,↓bS,hu,hfst,hbl,heq',hr]
  exact⟨htx.1,htx.2⟩
 ·have heq':(n.name=o.last)=False:=eq_false heq
  have hn:dM o n.name=true:=by
   have:Op.bytesLess o.last n.name=true:=by
    rcases Ho o.last n.name with g | g | g
    ·exact g
    ·exact absurd g.symm heq
    ·rw[g]at hbl;cases hbl
   simp[dM,k6,hu,this]
  simp (maxSteps:=400000) only[↓aI,aJ,BEq.rfl,seval,hQ,hpos,hne0,t1,z1,U5,U6,i1,hget,hset,h0',Am,length_reverse,↓dW,hpl,I6,XM,bX,xC,l7,XK,XL,↓bS,hu,hfst,hbl,heq']
  obtain⟨m1,e0,s1,j1,w1,e1,e2,e3,e4,e5⟩:=fin hn
  refine⟨htx.1,htx.2,⟨by omega,by omega⟩,rfl,by omega,by omega,⟨by omega,by omega⟩,m1,e0,s1,j1,w1,e1,e2,e3,e4,?_⟩
  rw[←e5]
  simp only[hA,List.take_succ_cons,take_zero,map_cons (f:=eO _ _ _),map_nil,DX]
  rfl
def j5:fu:=λargs objs K=>match args with
 | [a0]=>jF ak a0 (HK.mk:HK λv=>(Small v)∧K (.bool (bK v)) objs 0)
 | _=>False
theorem DY:aQ Tryz.prog 49 (j5):=by
 intro args objs K h
 unfold j5 at h
 split at h
 ·rename_i a0
  obtain⟨v,rfl,h1,hk⟩:=h
  exact⟨_,_,_,.pure _ rfl (Fp v h1),hk⟩
 ·exact h.elim
end Lp
namespace Lp
open Go Go.Proofs
end Lp
namespace Lp
open Go Go.Proofs
theorem Lh(v:Vl)(hl:v.length≤1099511627776)(ho:One v):av Tryz.prog 52 [ak v] [] (dV (aD v)) []:=by
 cases v with
 | nil=>exact absurd rfl ho.ne
 | cons n r=>
  obtain⟨hm,ps,h1,_,_⟩:=ho.parts
  have:=NE (n::r) n r ps rfl hl hm h1
  rw[aD,dV,(dI h1).1,List.map_map]
  exact this
theorem Li(v:Vl)(hl:v.length≤1099511627776)(ho:One v):av Tryz.prog 76 [ak v] [] (oJ (aS v)) []:=by
 cases v with
 | nil=>exact absurd rfl ho.ne
 | cons n r=>
  obtain⟨hm,ps,h1,_,_⟩:=ho.parts
  have:=NG (n::r) n r ps rfl hl hm h1
  rw[Hl]at this
  rw[aS,oJ,(dI h1).2]
  exact this
def l8:fu:=λargs objs K=>match args with
 | [a0]=>jF ak a0 (HK.mk:HK λv=>(v.length≤1099511627776)∧(One v)∧K (dV (aD v)) objs 0)
 | _=>False
theorem ul:aQ Tryz.prog 52 (l8):=by
 intro args objs K h
 unfold l8 at h
 split at h
 ·rename_i a0
  obtain⟨v,rfl,h1,h2,hk⟩:=h
  exact⟨_,_,_,.pure _ rfl (Lh v h1 h2),hk⟩
 ·exact h.elim
def y7:fu:=λargs objs K=>match args with
 | [a0]=>jF ak a0 (HK.mk:HK λv=>(v.length≤1099511627776)∧(One v)∧K (oJ (aS v)) objs 0)
 | _=>False
theorem Lj:aQ Tryz.prog 76 (y7):=by
 intro args objs K h
 unfold y7 at h
 split at h
 ·rename_i a0
  obtain⟨v,rfl,h1,h2,hk⟩:=h
  exact⟨_,_,_,.pure _ rfl (Li v h1 h2),hk⟩
 ·exact h.elim
end Lp
