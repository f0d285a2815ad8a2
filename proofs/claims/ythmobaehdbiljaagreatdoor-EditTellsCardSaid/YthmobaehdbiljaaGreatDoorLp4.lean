/-
  Part 4 of what the statement rests on: LpS, LpY, LpU, LpGen, LpI1, LpC1, LpZ, LpEq, LpU2, LpC2, LpC4, LpC5, LpC6, LpC7, LpC8, LpC9, LpC10, LpC11, LpC12, LpC13, LpC14, LpC15, LpTA0, LpW1, LpW2, LpW3, LpW4, LpW8, LpW14, LpW15, LpW16, LpW17, LpW18, LpW19, LpX, LpUse, LpRes, LpW20, LpW23, LpW30, LpD1, LpD2, LpV5, LpLay, LpLib, LpD4, LpD5, LpV10, LpX1, LpD6, LpD9, LpD10. No condition.
-/
import Derived.Test.YthmobaehdbiljaaGreatDoorLp3
import Derived.KernelRfl
import Derived.Test.YthmobaehdbiljaaGreatDoorProg
import Derived.Laws.StructEq
import Derived.Deep.Slices
import Derived.ChangeShapes
import Derived.SizedLaws
import Derived.Deep.DeepHandedRow
import Derived.JoinedOf
import Derived.Below
import Derived.Carry
import Derived.ChangeOld
import Derived.RowKit
import Derived.OpenShut
import Derived.Lib.ValidLaws
import Derived.Shelf.Strings.FuncGrows
import Derived.Lib.TrimByte
import Derived.Shelf.SlGeneric
import Derived.Ground.NamesProg
import Derived.Ground.Names8Prog
import Derived.Shelf.Strings.Trim
import Derived.Shelf.Sort.Plain
import Derived.Shelf.Slices.In.SortNone
import Derived.Shelf.Unicode.ValidAny
import Derived.Shelf.Spec.SlicesGrow
import Derived.Shelf.Strings.Repeat

set_option linter.all false
set_option maxHeartbeats 8000000
set_option maxRecDepth 100000
namespace Lp
open Go
variable {P:Program}{D:TypeId→aD}{T:Know}{objs ai:List Obj}{K:KT}
@[congr] theorem ac8{ss:List Step}{S S':St}{ts ts':List Nat}{K:St→List Nat→Prop}(h:S=S')(h':ts=ts'):LR P D T ss S ts K=LR P D T ss S' ts' K:=by rw[h,h']
@[congr] theorem acw{A A' B B':List Step}{u u':List Nat}{Q:Exit→St→Prop}{S S':St}(h:A=A')(h1:B=B')(h2:u=u')(h3:S=S'):ldK P D T A B u Q S=ldK P D T A' B' u' Q S':=by rw[h,h1,h2,h3]
@[congr] theorem Zt{v v':PV}{d:Nat}{w:Bool}{S:St}{X Y:St→Prop}(h:v=v'):lC v d w S X Y=lC v' d w S X Y:=by rw[h]
@[congr] theorem aaO{v v':PV}{X Y:Prop}(h:v=v'):zB v X Y=zB v' X Y:=by rw[h]
@[congr] theorem aaP{c c' x x' y y':PV}(h1:c=c')(h2:x=x')(h3:y=y')(ho:objs=ai):vN c x y objs K=vN c' x' y' ai K:=by rw[h1,h2,h3,ho]
@[congr] theorem Zu{t:TypeId}{ti Ty:aD}(h:ti=Ty)(ho:objs=ai):rJ t ti objs K=rJ t Ty ai K:=by rw[h,ho]
@[congr] theorem abN{t:TypeId}{ti Ty:aD}{v v':PV}(h:ti=Ty)(h1:v=v')(ho:objs=ai):K3 t ti v objs K=K3 t Ty v' ai K:=by rw[h,h1,ho]
@[congr] theorem Zv{t:TypeId}{ps ps':List (Nat×PV)}(h:ps=ps')(ho:objs=ai):dh D t ps objs K=dh D t ps' ai K:=by rw[h,ho]
@[congr] theorem Tz{own:Bool}{t:TypeId}{n:Nat}{ps ps':List (Nat×PV)}(h:ps=ps')(ho:objs=ai):bL D own t n ps objs K=bL D own t n ps' ai K:=by rw[h,ho]
@[congr] theorem aaQ{ti Ty:aD}{p p':PV}(h:ti=Ty)(h1:p=p')(ho:objs=ai):eD ti p objs K=eD Ty p' ai K:=by rw[h,h1,ho]
@[congr] theorem Zw{ti Ty:aD}{p p' v v':PV}(h:ti=Ty)(h1:p=p')(h2:v=v')(ho:objs=ai):jo ti p v objs K=jo Ty p' v' ai K:=by rw[h,h1,h2,ho]
@[congr] theorem Wh{x x':PV}(h:x=x')(ho:objs=ai):dx x objs K=dx x' ai K:=by rw[h,ho]
@[congr] theorem abO{ti Ty:aD}{t:TypeId}{b:BinOp}{x x' y y':PV}{K:PV→Prop}(h:ti=Ty)(h1:x=x')(h2:y=y'):oP P ti t b x y K=oP P Ty t b x' y' K:=by rw[h,h1,h2]
@[congr] theorem acy{u:UnOp}{x x':PV}{K:PV→Prop}(h:x=x'):Nh u x K=Nh u x' K:=by rw[h]
@[congr] theorem aaR{s s' d d':aD}{x x':PV}{K:PV→Prop}(h:s=s')(h1:d=d')(h2:x=x'):qf s d x K=qf s' d' x' K:=by rw[h,h1,h2]
@[congr] theorem Wi{f:FuncId}{a a' c c':List PV}(h:a=a')(h1:c=c')(ho:objs=ai):kC f a c objs K=kC f a' c' ai K:=by rw[h,h1,ho]
@[congr] theorem U_{t:TypeId}{l l' c c':PV}(h:l=l')(h1:c=c')(ho:objs=ai):d_ D t l c objs K=d_ D t l' c' ai K:=by rw[h,h1,ho]
@[congr] theorem Zx{t:TypeId}{x x':PV}{lo lo' hi hi':Option PV}(h:x=x')(h1:lo=lo')(h2:hi=hi')(ho:objs=ai):iB D t x lo hi objs K=iB D t x' lo' hi' ai K:=by rw[h,h1,h2,ho]
@[congr] theorem Va{t:TypeId}{x x':PV}{f:Nat}(h:x=x')(ho:objs=ai):aU D t x f objs K=aU D t x' f ai K:=by rw[h,ho]
@[congr] theorem Zy{t:TypeId}{x x':PV}{f:Nat}(h:x=x')(ho:objs=ai):oQ D t x f objs K=oQ D t x' f ai K:=by rw[h,ho]
@[congr] theorem Vb{t:TypeId}{x x' i i':PV}(h:x=x')(h1:i=i')(ho:objs=ai):bH D t x i objs K=bH D t x' i' ai K:=by rw[h,h1,ho]
@[congr] theorem Zz{t:TypeId}{x x' i i':PV}(h:x=x')(h1:i=i')(ho:objs=ai):lg D t x i objs K=lg D t x' i' ai K:=by rw[h,h1,ho]
@[congr] theorem Xl{x x':PV}{i:Nat}(h:x=x')(ho:objs=ai):bW x i objs K=bW x' i ai K:=by rw[h,ho]
@[congr] theorem abP{t:TypeId}{x x':PV}(h:x=x')(ho:objs=ai):qL D t x objs K=qL D t x' ai K:=by rw[h,ho]
@[congr] theorem YS{t u:TypeId}{s s' x x':PV}(h:s=s')(h1:x=x')(ho:objs=ai):dK D t u s x objs K=dK D t u s' x' ai K:=by rw[h,h1,ho]
@[congr] theorem YU{b:Bool}{xs xs':List PV}{K:PV→Prop}(h:xs=xs'):gK b xs K=gK b xs' K:=by rw[h]
@[congr] theorem aaS{pt pt':Bool}{f f':PV}{args args':List PV}(hp:pt=pt')(h:f=f')(h1:args=args')(ho:objs=ai):pu T pt f args objs K=pu T pt' f' args' ai K:=by rw[hp,h,h1,ho]
@[congr] theorem aaT{pl:Nat→Option (Nat×Nat)}{cs cs':List PV}{ps:List (Nat×PV)}{K:List PV→Prop}(h:cs=cs'):oD pl cs ps K=oD pl cs' ps K:=by rw[h]
@[congr] theorem ZA{x x':Option PV}{d d':Int}{K:Int→Prop}(h:x=x')(h1:d=d'):cK x d K=cK x' d' K:=by rw[h,h1]
@[congr] theorem acz{C:LC}{Q:Exit→St→Prop}{S S':St}(h:S=S'):iK P D T C Q S=iK P D T C Q S':=by rw[h]
theorem aQ{ks:List Bool}{fz:Option (Nat×Nat)}{c:LC}{Q:Exit→St→Prop}{S:St}(I:Nat→St→Prop)(m:Nat)(h0:I m (S.norm ks fz))
  (hr:∀m S,I m S→iK P D T c (thenS (λS'=>∃m',m'<m∧I m' (S'.norm ks fz)) Q) S) (hz:C8 T.nx fz:=by exact trivial):iK P D T (.loop ks fz c) Q S:=⟨hz,I,⟨_,m,Weak.norm ks fz hz S,h0⟩,hr⟩
theorem bg{c:LC}{Q:Exit→St→Prop}{S:St}(S':St)(hw:Weak T.nx S S')(h:iK P D T c Q S'):iK P D T (.weak c) Q S:=⟨S',hw,h⟩
theorem z_{f:Operand}{ps:List Nat}{fz:Option (Nat×Nat)}{x y:LC}{Q:Exit→St→Prop}{S:St}(g:FuncId)(cap:List PV)(ys:List (List PV))(I:Nat→List Obj→Prop)(ht:T.top=true)
  (hf:S.ev f=.fn g [] cap) (hc:cap.all PV.pure=true) (hz:C8 S.objs.length fz) (hg:T.gives g cap ys) (hy:∀y∈ys,y.length=ps.length) (h0:I 0 S.objs) (hl:∀i objs,I i objs→S.objs.length≤objs.length∧bI objs)
  (hr:∀i args objs,I i objs→ys[i]?=some args→iK P D (T.inner S.objs.length) x (thenS (λS1=>iK P D (T.inner S.objs.length) y (Gg fz (I (i+1))) S1) (λ_ _=>False)) ⟨jH ps args S.tmps,objs⟩)
  (he:∀objs,I ys.length objs→Q .normal ⟨S.tmps,objs⟩):iK P D T (.rf f ps fz x y) Q S:=⟨ht,.inl ⟨g,cap,ys,hf,hc,hg,hy,.inl ⟨I,hz,h0,hl,hr,he⟩⟩⟩
theorem ZB{f:Operand}{ps:List Nat}{fz:Option (Nat×Nat)}{x y:LC}{Q:Exit→St→Prop}{S:St}(g:FuncId)(cap:List PV)(ys:List (List PV))(I J:Nat→List Obj→Prop)(lv:Exit){lc:Code}(hlv:zZ lv=some lc)(ht:T.top=true)
  (hf:S.ev f=.fn g [] cap) (hc:cap.all PV.pure=true) (hz:C8 (S.objs.length+2) fz) (hg:T.gives g cap ys) (hy:∀y∈ys,y.length=ps.length) (h0:I 0 (S.objs++[vU,hole])) (hl:∀i objs,I i objs→Gh S.objs.length objs)
  (hj:∀i objs,J i objs→Gh S.objs.length objs∧bC objs)
  (hr:∀i args objs,I i objs→ys[i]?=some args→iK P D (T.inner (S.objs.length+2)) x (thenS (λS1=>iK P D (T.inner (S.objs.length+2)) y (Bp fz (I (i+1)) lv (J i)) S1) (λ_ _=>False)) ⟨jH ps args S.tmps,objs⟩)
  (he:∀objs,I ys.length objs→Q .normal ⟨S.tmps,objs⟩) (hv:∀i objs,i<ys.length→J i objs→Q lv ⟨S.tmps,fF S.objs.length objs⟩):iK P D T (.rf f ps fz x y) Q S:=
 ⟨ht,.inl ⟨g,cap,ys,hf,hc,hg,hy,.inr (.inl ⟨I,J,lv,lc,hlv,hz,h0,hl,hj,hr,he,hv⟩)⟩⟩
theorem ZC{f:Operand}{ps:List Nat}{fz:Option (Nat×Nat)}{x y:LC}{Q:Exit→St→Prop}{S:St}(g:FuncId)(cap:List PV)(ys:List (List PV))(I:Nat→List Obj→Prop)(ht:T.top=true)
  (hf:S.ev f=.fn g [] cap) (hc:cap.all PV.pure=true) (hz:C8 S.objs.length fz) (hg:T.ge g cap ys) (hy:∀y∈ys,y.length=ps.length) (h0:I 0 S.objs) (hl:∀i objs,I i objs→S.objs.length=objs.length∧bI objs)
  (hr:∀i args objs,I i objs→ys[i]?=some args→iK P D (T.inner S.objs.length) x (thenS (λS1=>iK P D (T.inner S.objs.length) y (Gg fz (I (i+1))) S1) (λ_ _=>False)) ⟨jH ps args S.tmps,objs⟩)
  (he:∀objs,I ys.length objs→Q .normal ⟨S.tmps,objs⟩):iK P D T (.rf f ps fz x y) Q S:=⟨ht,.inr ⟨g,cap,ys,I,hf,hc,hg,hy,hz,h0,hl,hr,he⟩⟩
theorem ZE{f:Operand}{ps:List Nat}{fz:Option (Nat×Nat)}{x y:LC}{Q:Exit→St→Prop}{S:St}(g:FuncId)(cap:List PV)(ys:List (List PV))(I J:Nat→List Obj→Prop)(lv:Exit){lc:Code}(hlv:zZ lv=some lc)(ht:T.top=true)
  (hb:T.bb=true) (hbn:T.bn≤S.objs.length) (hbt:∀p∈S.tmps,p.ge T.bn=true) (hbx:T.nx≤S.objs.length)
  (hf:S.ev f=.fn g [] cap) (hc:cap.all PV.pure=true) (hz:C8 (S.objs.length+2) fz) (hg:T.gives g cap ys) (hy:∀y∈ys,y.length=ps.length) (h0:I 0 (S.objs++[vU,hole])) (hl:∀i objs,I i objs→Gh S.objs.length objs)
  (hj:∀i objs,J i objs→Gh S.objs.length objs∧bC objs)
  (hr:∀i args objs,I i objs→ys[i]?=some args→iK P D (T.oV (S.objs.length+2)) x (thenS (λS1=>iK P D (T.oV (S.objs.length+2)) y (Bp fz (I (i+1)) lv (J i)) S1) (λ_ _=>False)) ⟨jH ps args S.tmps,objs⟩)
  (he:∀objs,I ys.length objs→Q .normal ⟨S.tmps,objs⟩) (hv:∀i objs,i<ys.length→J i objs→Q lv ⟨S.tmps,fF S.objs.length objs⟩):iK P D T (.rf f ps fz x y) Q S:=
 ⟨ht,.inl ⟨g,cap,ys,hf,hc,hg,hy,.inr (.inr ⟨hb,hbn,hbt,hbx,I,J,lv,lc,hlv,hz,h0,hl,hj,hr,he,hv⟩)⟩⟩
theorem Rh(d n:Nat)(objs:List Obj) :
  (∀k m,jG d n objs (.int k m)=.int k m)∧(∀b,jG d n objs (.bool b)=.bool b)∧(∀s,jG d n objs (.str s)=.str s)∧(∀sz xs q,jG d n objs (.sl sz xs q)=.sl sz xs q)∧(∀x,jG d n objs (.addr x)=.addr x)∧
  (jG d n objs .dead=.dead)∧
  (∀cs,jG d n objs (.agg cs)=.agg (cs.map (fA d n objs)))∧(∀cs,jG d n objs (.bY cs)=.bY (cs.map (fA d n objs)))∧
  (∀k m,fA d n objs (.int k m)=.int k m)∧(∀b,fA d n objs (.bool b)=.bool b)∧(∀s,fA d n objs (.str s)=.str s)∧(∀sz xs q,fA d n objs (.sl sz xs q)=.sl sz xs q)∧(∀x,fA d n objs (.addr x)=.addr x)∧(fA d n objs .dead=.dead):=
 ⟨λ_ _=>rfl,λ_=>rfl,λ_=>rfl,λ_ _ _=>rfl,λ_=>rfl,rfl,λ_=>rfl,λ_=>rfl,λ_ _=>rfl,λ_=>rfl,λ_=>rfl,λ_ _ _=>rfl,λ_=>rfl,rfl⟩
theorem Bv(d:Nat)(rs:List ResultVar)(r:PV)(S:St) :
  (U4 D d rs r .ret S=kT D S rs λps=>r=fU (ps.map (jG d 0 S.objs)))∧(U4 D d rs r .normal S=kT D S rs λps=>r=fU (ps.map (jG d 0 S.objs))):=by
 constructor<;>simp[U4]
theorem Kl(d t:Nat)(o:Obj)(S:St) :
  (Rc d t o .ret S=∃S' k ver o0,Weak 0 S S'∧S'.tmps.getD t .dead=.aS k ver∧S'.objs[k]?=some o0∧o0.live=true∧o0.ver=ver∧{ eO d (k+1) S'.objs o0 with ver:=0 }=o∧bC [o])∧
  (Rc d t o .normal S=∃S' k ver o0,Weak 0 S S'∧S'.tmps.getD t .dead=.aS k ver∧S'.objs[k]?=some o0∧o0.live=true∧o0.ver=ver∧{ eO d (k+1) S'.objs o0 with ver:=0 }=o∧bC [o]):=by
 constructor<;>simp[Rc]
theorem Da:(∀(x p:PV) l n,(x::l).set (n+1) p=x::l.set n p)∧(∀(x p:PV) l,(x::l).set 0 p=p::l)∧(∀(x:PV) l n d,(x::l).getD (n+1) d=l.getD n d)∧(∀(x:PV) l d,(x::l).getD 0 d=x)∧
  (∀(x:PV) l m,(x::l)++m=x::(l++m))∧(∀m:List PV,[]++m=m)∧(∀n (x:PV),List.replicate (n+1) x=x::List.replicate n x)∧(∀(x:PV),List.replicate 0 x=[])∧(∀(x:PV) l,(x::l).length=l.length+1)∧(([]:List PV).length=0)∧
  (∀(f:Operand→PV) x l,(x::l).map f=f x::l.map f)∧(∀(f:Operand→PV),[].map f=[])∧
  (∀(f:Nat×Operand→Nat×PV) x l,(x::l).map f=f x::l.map f)∧(∀(f:Nat×Operand→Nat×PV),[].map f=[])∧
  (∀(f:PV→PV) x l,(x::l).map f=f x::l.map f)∧(∀(f:PV→PV),[].map f=[])∧
  (∀(f:Operand→PV) x,(some x).map f=some (f x))∧(∀(f:Operand→PV),none.map f=none)∧
  (∀(x:Nat) l m,(x::l)++m=x::(l++m))∧(∀m:List Nat,[]++m=m)∧
  (∀n l,mkT n l=l.foldl (λtm x=>tm.set x.1 x.2) (List.replicate n .dead))∧
  (∀(f:List PV→Nat×PV→List PV) x l i,(x::l).foldl f i=l.foldl f (f i x))∧(∀(f:List PV→Nat×PV→List PV) i,[].foldl f i=i):=
 ⟨λ_ _ _ _=>rfl,λ_ _ _=>rfl,λ_ _ _ _=>rfl,λ_ _ _=>rfl,λ_ _ _=>rfl,λ_=>rfl,λ_ _=>rfl,λ_=>rfl,λ_ _=>rfl,rfl,λ_ _ _=>rfl,λ_=>rfl,
  λ_ _ _=>rfl,λ_=>rfl,λ_ _ _=>rfl,λ_=>rfl,λ_ _=>rfl,λ_=>rfl,λ_ _ _=>rfl,λ_=>rfl,λ_ _=>rfl,λ_ _ _ _=>rfl,λ_ _=>rfl⟩
theorem fgR:(∀ks x (l:List PV),yR (true::ks) (x::l)=x::yR ks l)∧(∀ks x (l:List PV),yR (false::ks) (x::l)=.dead::yR ks l)∧(∀ks,yR ks []=[])∧(∀ks (S:St),S.norm ks none=S.forget ks)∧(∀ks tm ob,St.forget ks ⟨tm,ob⟩=⟨yR ks tm,ob⟩):=
 ⟨λ_ _ _=>rfl,λ_ _ _=>rfl,λks=>by cases ks<;>rfl,λ_ _=>rfl,λ_ _ _=>rfl⟩
theorem Wj(ti:aD)(t:TypeId)(K:PV→Prop) :
  (∀b k x y,oP P ti t b (.int k x) (.int k y) K=rH b k k x y K)∧
  (∀b x y,oP P ti t b (.str x) (.str y) K=iQ b x y K)∧
  (∀x y,oP P ti t .eql (.bool x) (.bool y) K=(ti.kind=.bool∧K (.bool (x==y))))∧
  (∀x y,oP P ti t .neq (.bool x) (.bool y) K=(ti.kind=.bool∧K (.bool (!(x==y)))))∧
  (∀x y,oP P ti t .eql (.agg x) (.agg y) K=(Iu P t x y∧∃r,KZ x y=some r∧K (.bool r)))∧
  (∀x y,oP P ti t .neq (.agg x) (.agg y) K=(Iu P t x y∧∃r,KZ x y=some r∧K (.bool (!r))))∧
  (∀s x q s' x',oP P ti t .eql (.sl s x (some q)) (.sl s' x' (some true)) K=((∃e,ti.kind=.slice e)∧K (.bool q)))∧
  (∀s x q s' x',oP P ti t .neq (.sl s x (some q)) (.sl s' x' (some true)) K=((∃e,ti.kind=.slice e)∧K (.bool (!q)))):=
 ⟨λ_ _ _ _=>rfl,λ_ _ _=>rfl,λ_ _=>rfl,λ_ _=>rfl,λ_ _=>rfl,λ_ _=>rfl,λ_ _ _ _ _=>rfl,λ_ _ _ _ _=>rfl⟩
theorem TA(k:IntKind)(a b:Int)(K:PV→Prop) :
  (rH .add k k a b K=(JM k (a+b)∧K (.int k (a+b))))∧(rH .sub k k a b K=(JM k (a-b)∧K (.int k (a-b))))∧(rH .mul k k a b K=(JM k (a*b)∧K (.int k (a*b))))∧
  (rH .quo k k a b K=(b≠0∧JM k (a.tdiv b)∧K (.int k (a.tdiv b))))∧(rH .rem k k a b K=(b≠0∧K (.int k (a.tmod b))))∧
  (rH .eql k k a b K=K (.bool (decide (a=b))))∧(rH .neq k k a b K=K (.bool (!decide (a=b))))∧(rH .lss k k a b K=K (.bool (decide (a<b))))∧(rH .leq k k a b K=K (.bool (decide (a≤b))))∧
  (rH .gtr k k a b K=K (.bool (decide (b<a))))∧(rH .geq k k a b K=K (.bool (decide (b≤a)))):=by
 refine⟨?_,?_,?_,?_,?_,?_,?_,?_,?_,?_,?_⟩<;>simp[rH]
theorem Gs(a:Int):(JM .i64 a=(-9223372036854775808≤a∧a≤9223372036854775807))∧(JM .u8 a=(0≤a∧a≤255)):=⟨rfl,rfl⟩
theorem gy(ev:Operand→PV):(∀t x,dZ D .len [t] [x] ev objs K=qL D t (ev x) objs K)∧(∀t u s x,dZ D .append [t,u] [s,x] ev objs K=dK D t u (ev s) (ev x) objs K)∧
  (∀ts xs,dZ D .max ts xs ev objs K=gK true (xs.map ev) λr=>K r objs 0)∧(∀ts xs,dZ D .min ts xs ev objs K=gK false (xs.map ev) λr=>K r objs 0):=
 ⟨λ_ _=>rfl,λ_ _ _ _=>rfl,λ_ _=>rfl,λ_ _=>rfl⟩
theorem Gt{α:Type}(l:List α)(f:α→PV)(n:Nat)(q:PV→Prop):(∃y,(l.map f)[n]?=some y∧q y)=∃x,l[n]?=some x∧q (f x):=by
 apply propext
 constructor
 ·rintro⟨y,h,hq⟩
  rw[List.getElem?_map]at h
  cases hx:l[n]? with
  | none=>rw[hx]at h;simp at h
  | some x=>rw[hx]at h;simp only[Option.map_some,Option.some.injEq]at h;exact⟨x,rfl,h ▸ hq⟩
 ·rintro⟨x,h,hq⟩
  exact⟨f x,by rw[List.getElem?_map,h];rfl,hq⟩
theorem Og{α:Type}(a:α)(l:List α)(q:α→Prop):((∃x,(a::l)[0]?=some x∧q x)=q a)∧(∀n,(∃x,(a::l)[n+1]?=some x∧q x)=∃x,l[n]?=some x∧q x):=by
 refine⟨propext ⟨?_,λh=>⟨a,rfl,h⟩⟩,λn=>rfl⟩
 rintro⟨x,h,hq⟩
 simp only[List.getElem?_cons_zero,Option.some.injEq]at h
 exact h ▸ hq
theorem Oh:(∀s b z,aD.agg ⟨.str,s,b,z⟩=false)∧(∀k s b z,aD.agg ⟨.int k,s,b,z⟩=false)∧(∀s b z,aD.agg ⟨.bool,s,b,z⟩=false)∧(∀e s b z,aD.agg ⟨.slice e,s,b,z⟩=false)∧(∀s b z,aD.agg ⟨.other,s,b,z⟩=false)∧
  (∀fs s b z,aD.agg ⟨.struct fs,s,b,z⟩=true)∧(∀n e s b z,aD.agg ⟨.array n e,s,b,z⟩=true):=⟨λ_ _ _=>rfl,λ_ _ _ _=>rfl,λ_ _ _=>rfl,λ_ _ _ _=>rfl,λ_ _ _=>rfl,λ_ _ _ _=>rfl,λ_ _ _ _ _=>rfl⟩
theorem wH(cs:List PV)(o n:Nat):(sub cs o n false=cs.getD o .dead)∧(sub cs o n true=.agg ((cs.drop o).take n)):=⟨rfl,rfl⟩
theorem LB:(∀k n,PV.isAgg (.int k n)=false)∧(∀b,PV.isAgg (.bool b)=false)∧(∀s,PV.isAgg (.str s)=false)∧(∀s x q,PV.isAgg (.sl s x q)=false)∧(∀cs,PV.isAgg (.agg cs)=true)∧(∀k v,PV.isAgg (.aS k v)=false)∧(∀k v i f,PV.isAgg (.bf k v i f)=false)∧(∀x,PV.isAgg (.addr x)=false)∧(PV.isAgg .A_=false)∧
  (∀k n,PV.cells (.int k n)=[.int k n])∧(∀b,PV.cells (.bool b)=[.bool b])∧(∀s,PV.cells (.str s)=[.str s])∧(∀s x q,PV.cells (.sl s x q)=[.sl s x q])∧(∀cs,PV.cells (.agg cs)=cs)∧(∀k v,PV.cells (.aS k v)=[.aS k v])∧(∀k v i f,PV.cells (.bf k v i f)=[.bf k v i f])∧(∀x,PV.cells (.addr x)=[.addr x]):=
 ⟨λ_ _=>rfl,λ_=>rfl,λ_=>rfl,λ_ _ _=>rfl,λ_=>rfl,λ_ _=>rfl,λ_ _ _ _=>rfl,λ_=>rfl,rfl,λ_ _=>rfl,λ_=>rfl,λ_=>rfl,λ_ _ _=>rfl,λ_=>rfl,λ_ _=>rfl,λ_ _ _ _=>rfl,λ_=>rfl⟩
theorem LD:(∀(f:PV→Bool) x l,(x::l).all f=(f x && l.all f))∧(∀f:PV→Bool,[].all f=true)∧(∀(x:PV) l n,(x::l).take (n+1)=x::l.take n)∧(∀l:List PV,l.take 0=[])∧(∀(x:PV) l n,(x::l).drop (n+1)=l.drop n)∧(∀l:List PV,l.drop 0=l)∧(∀n,([]:List PV).take n=[])∧(∀n,([]:List PV).drop n=[]):=
 ⟨λ_ _ _=>rfl,λ_=>rfl,λ_ _ _=>rfl,λ_=>by simp,λ_ _ _=>rfl,λ_=>rfl,λ_=>by simp,λ_=>by simp⟩
theorem fzR(d n:Nat)(objs:List Obj):(∀k v,jG d n objs (.aS k v)=fA d n objs (.aS k v))∧(∀k v i f,jG d n objs (.bf k v i f)=fA d n objs (.bf k v i f))∧(∀l,jG d n objs (.qI l)=.qI l)∧
  (∀f a c,jG d n objs (.fn f a c)=.fn f (a.map (fA d n objs)) (c.map (fA d n objs))):=⟨λ_ _=>rfl,λ_ _ _ _=>rfl,λ_=>rfl,λ_ _ _=>rfl⟩
theorem puR:(∀k n,PV.pure (.int k n)=true)∧(∀b,PV.pure (.bool b)=true)∧(∀s,PV.pure (.str s)=true)∧(∀s x q,PV.pure (.sl s x q)=true)∧(∀x,PV.pure (.addr x)=true)∧(PV.pure .dead=true)∧(∀l,PV.pure (.qI l)=true):=
 ⟨λ_ _=>rfl,λ_=>rfl,λ_=>rfl,λ_ _ _=>rfl,λ_=>rfl,rfl,λ_=>rfl⟩
theorem zF{d n:Nat}{objs:List Obj}{k v i f:Nat}(h:n≤k):(fA d n objs (.bf k v i f)).pure=true:=by
 simp only[fA,if_neg (Nat.not_lt.2 h)]
 cases d<;>simp only[kD]
 ·rfl
 ·split
  ·split
   ·split<;>rfl
   ·rfl
  ·rfl
theorem Gu{α β:Type}(a:α)(l:List α)(q:α→β→Prop):((∃x y,(a::l)[0]?=some x∧q x y)=∃y,q a y)∧(∀n,(∃x y,(a::l)[n+1]?=some x∧q x y)=∃x y,l[n]?=some x∧q x y):=by
 refine⟨propext ⟨?_,λ⟨y,h⟩=>⟨a,y,rfl,h⟩⟩,λn=>rfl⟩
 rintro⟨x,y,h,hq⟩
 simp only[List.getElem?_cons_zero,Option.some.injEq]at h
 exact⟨y,h ▸ hq⟩
theorem Xm:(∀(x p:Obj) l n,(x::l).set (n+1) p=x::l.set n p)∧(∀(x p:Obj) l,(x::l).set 0 p=p::l)∧(∀(x:Obj) l m,(x::l)++m=x::(l++m))∧(∀m:List Obj,[]++m=m)∧(∀(x:Obj) l,(x::l).length=l.length+1)∧(([]:List Obj).length=0):=
 ⟨λ_ _ _ _=>rfl,λ_ _ _=>rfl,λ_ _ _=>rfl,λ_=>rfl,λ_ _=>rfl,rfl⟩
end Lp
namespace Lp
open Go
def Aa(b:Bool)(X Y:Prop):Prop:=(b=true→X)∧(b=false→Y)
@[congr] theorem acA{b b':Bool}{X Y:Prop}(h:b=b'):Aa b X Y=Aa b' X Y:=by rw[h]
theorem ifR :
  (∀X Y,Aa true X Y=X)∧(∀X Y,Aa false X Y=Y)∧
  (∀(p:Prop) [Decidable p] X Y,Aa (decide p) X Y=((p→X)∧(¬ p→Y)))∧
  (∀b X Y,Aa (!b) X Y=Aa b Y X)∧
  (∀a b X Y,Aa (a && b) X Y=Aa a (Aa b X Y) Y)∧
  (∀a b X Y,Aa (a || b) X Y=Aa a X (Aa b X Y))∧
  (∀(x y:List UInt8) X Y,Aa (x==y) X Y=((x=y→X)∧(x≠y→Y)))∧
  (∀(x y:Bool) X Y,Aa (x==y) X Y=((x=y→X)∧(x≠y→Y))):=by
 refine⟨λX Y=>?_,λX Y=>?_,λp _ X Y=>?_,λb X Y=>?_,λa b X Y=>?_,λa b X Y=>?_,λx y X Y=>?_,λx y X Y=>?_⟩
 ·simp[Aa]
 ·simp[Aa]
 ·simp[Aa]
 ·cases b<;>simp[Aa]
 ·cases a<;>simp[Aa]
 ·cases a<;>simp[Aa]
 ·simp[Aa]
 ·simp[Aa]
theorem ac9 :
  (∀(n:St→Prop) (Q:Exit→St→Prop) S,thenS n Q .normal S=n S)∧
  (∀(n:St→Prop) (Q:Exit→St→Prop) S,thenS n Q .ret S=Q .ret S)∧
  (∀(n:St→Prop) (Q:Exit→St→Prop) S id,thenS n Q (.exit id) S=Q (.exit id) S)∧
  (∀(Q:Exit→St→Prop) S id,rM id Q .normal S=Q .normal S)∧
  (∀(Q:Exit→St→Prop) S id,rM id Q .ret S=Q .ret S)∧
  (∀(Q:Exit→St→Prop) S id id',rM id Q (.exit id') S=if id'=id then Q .normal S else Q (.exit id') S)∧
  (∀b X Y,zB (.bool b) X Y=Aa b X Y):=
 ⟨λ_ _ _=>rfl,λ_ _ _=>rfl,λ_ _ _ _=>rfl,λ_ _ _=>rfl,λ_ _ _=>rfl,λ_ _ _ _=>rfl,λ_ _ _=>rfl⟩
theorem ac_ :
  (∀(S:St) (X Y:St→Prop),wE none S X Y=X S)∧
  (∀d w (S:St) (X Y:St→Prop),wE (some (some d,w)) S X Y=lC (S.tmps.getD d .dead) d w S X Y)∧
  (∀b d (S:St) (X Y:St→Prop),lC (.bool b) d true S X Y=Aa b (X { S with tmps:=S.tmps.set d (.bool true) }) (Y { S with tmps:=S.tmps.set d (.bool false) }))∧
  (∀b d (S:St) (X Y:St→Prop),lC (.bool b) d false S X Y=Aa b (Y { S with tmps:=S.tmps.set d (.bool true) }) (X { S with tmps:=S.tmps.set d (.bool false) }))∧
  (∀d w (S:St) (X Y:St→Prop),lC (.bY []) d w S X Y=Y S):=
 ⟨λ_ _ _=>rfl,λ_ _ _ _ _=>rfl,λ_ _ _ _ _=>rfl,λb _ _ _ _=>by cases b<;>simp[lC,Aa],λ_ _ _ _ _=>rfl⟩
structure HQ (C:LC) (Q:Exit→St→Prop):Type where
def abQ(P:Program)(D:TypeId→aD)(T:Know){C:LC}{Q:Exit→St→Prop}(_h:HQ C Q)(S:St):Prop:=iK P D T C Q S
theorem hoR(P:Program)(D:TypeId→aD)(T:Know) :
  (∀ks fz c (Q:Exit→St→Prop) S,iK P D T (.loop ks fz c) Q S=abQ P D T (HQ.mk:HQ (.loop ks fz c) Q) S)∧
  (∀c (Q:Exit→St→Prop) S,iK P D T (.weak c) Q S=abQ P D T (HQ.mk:HQ (.weak c) Q) S)∧
  (∀f ps fz x y (Q:Exit→St→Prop) S,iK P D T (.rf f ps fz x y) Q S=abQ P D T (HQ.mk:HQ (.rf f ps fz x y) Q) S):=
 ⟨λ_ _ _ _ _=>rfl,λ_ _ _=>rfl,λ_ _ _ _ _ _ _=>rfl⟩
def qK:List (Nat×PV)→Nat→PV
 | [],_=>.dead
 | (j,p)::l,i=>if i=j then p else qK l i
def dD(n:Nat)(l:List (Nat×PV)):List PV:=(List.range n).map (qK l)
theorem lD(n:Nat)(l:List (Nat×PV)):(dD n l).length=n:=by simp[dD]
theorem uH(n:Nat)(l:List (Nat×PV))(i:Nat):(dD n l)[i]?=if i<n then some (qK l i) else none:=by
 simp only[dD,List.getElem?_map]
 split
 ·rename_i h;rw[List.getElem?_range h];rfl
 ·rename_i h;rw[List.getElem?_eq_none (by simpa using h)];rfl
theorem x9{n:Nat}{l:List (Nat×PV)}{m:List PV}(hm:m.length=n)(h:∀i,i<n→m[i]?=some (qK l i)):m=dD n l:=by
 refine List.ext_getElem? λi=>?_
 rw[uH]
 split
 ·rename_i hi;exact h i hi
 ·rename_i hi;exact List.getElem?_eq_none (by omega)
def Oi(d n:Nat)(objs:List Obj):List (Nat×PV)→List (Nat×PV)
 | []=>[]
 | (j,p)::l=>(j,jG d n objs p)::Oi d n objs l
def fgA(ks:List Bool):List (Nat×PV)→List (Nat×PV)
 | []=>[]
 | (j,p)::l=>if ks[j]?=some true then (j,p)::fgA ks l else fgA ks l
theorem TB(d n:Nat)(objs:List Obj):∀(l:List (Nat×PV)) i,qK (Oi d n objs l) i=jG d n objs (qK l i)
 | [],i=>by simp[qK,Oi,jG,fA]
 | (j,p)::l,i=>by
  simp only[qK,Oi]
  split
  ·rfl
  ·exact TB d n objs l i
theorem Xn(ks:List Bool):∀(l:List (Nat×PV)) i,qK (fgA ks l) i=if ks[i]?=some true then qK l i else .dead
 | [],i=>by simp[qK,fgA]
 | (j,p)::l,i=>by
  have ih:=Xn ks l i
  simp only[fgA]
  split
  ·rename_i h
   simp only[qK]
   by_cases hij:i=j
   ·subst hij;simp[h]
   ·simp only[hij,if_false,ih]
  ·rename_i h
   rw[ih]
   by_cases hij:i=j
   ·subst hij;simp[h]
   ·simp[qK,hij]
theorem wI:∀(ks:List Bool) (l:List PV) (i:Nat),(yR ks l)[i]?=l[i]?.map λp=>if ks[i]?=some true then p else .dead
 | ks,[],i=>by cases ks<;>simp[yR]
 | [],p::ps,0=>by simp[yR]
 | [],p::ps,i+1=>by simpa[yR] using wI [] ps i
 | true::ks,p::ps,0=>by simp[yR]
 | false::ks,p::ps,0=>by simp[yR]
 | true::ks,p::ps,i+1=>by simpa[yR] using wI ks ps i
 | false::ks,p::ps,i+1=>by simpa[yR] using wI ks ps i
theorem oO :
  (∀i p l,qK ((i,p)::l) i=p)∧(∀i j p l,(i==j)=false→qK ((j,p)::l) i=qK l i)∧(∀i,qK [] i=.dead):=by
 refine⟨λi p l=>by simp[qK],λi j p l h=>?_,λ_=>rfl⟩
 simp only[qK]
 rw[if_neg (by simpa using h)]
theorem uI :
  (∀n l i p,(dD n l).set i p=dD n ((i,p)::l))∧
  (∀n l i,i<n→(dD n l).getD i .dead=qK l i)∧
  (∀n l d k objs,(dD n l).map (jG d k objs)=dD n (Oi d k objs l))∧
  (∀ks n l,yR ks (dD n l)=dD n (fgA ks l))∧
  (∀d n objs,Oi d n objs []=[])∧(∀d n objs j p l,Oi d n objs ((j,p)::l)=(j,jG d n objs p)::Oi d n objs l):=by
 refine⟨λn l i p=>?_,λn l i h=>?_,λn l d k objs=>?_,λks n l=>?_,λ_ _ _=>rfl,λ_ _ _ _ _ _=>rfl⟩
 ·refine x9 (by simp[lD]) λk hk=>?_
  rw[List.getElem?_set]
  simp only[qK]
  split
  ·rename_i h;subst h;simp[lD,hk]
  ·rename_i h;rw[uH,if_pos hk,if_neg (λh'=>h h'.symm)]
 ·rw[List.getD_eq_getElem?_getD,uH,if_pos h];rfl
 ·refine x9 (by simp[lD]) λi hi=>?_
  rw[List.getElem?_map,uH,if_pos hi,TB];rfl
 ·refine x9 (by simp[nQ,lD]) λi hi=>?_
  rw[wI,uH,if_pos hi,Xn];rfl
theorem Xo :
  (∀n,aY [] n=⟨dD n [],[]⟩)∧
  (∀a n,1≤n→aY [a] n=⟨dD n [(0,a)],[]⟩)∧
  (∀a b n,2≤n→aY [a,b] n=⟨dD n [(0,a),(1,b)],[]⟩)∧
  (∀a b c n,3≤n→aY [a,b,c] n=⟨dD n [(0,a),(1,b),(2,c)],[]⟩)∧
  (∀a b c d n,4≤n→aY [a,b,c,d] n=⟨dD n [(0,a),(1,b),(2,c),(3,d)],[]⟩)∧
  (∀a b c d e n,5≤n→aY [a,b,c,d,e] n=⟨dD n [(0,a),(1,b),(2,c),(3,d),(4,e)],[]⟩):=by
 have key:∀(args:List PV) (n:Nat) (l:List (Nat×PV)),args.length≤n→(∀i,i<n→args.getD i .dead=qK l i)→aY args n=⟨dD n l,[]⟩:=by
  intro args n l h1 h2
  have:args++List.replicate (n-args.length) PV.dead=dD n l:=by
   refine x9 (by simp;omega) λi hi=>?_
   rw[←h2 i hi,List.getElem?_append,List.getD_eq_getElem?_getD]
   split
   ·rename_i h;rw[List.getElem?_eq_getElem h];rfl
   ·rename_i h;rw[List.getElem?_replicate,if_pos (by omega),List.getElem?_eq_none (by omega)];rfl
  rw[aY,this]
 refine⟨λn=>key _ _ _ (by simp) ?_,λa n h=>key _ _ _ h ?_,λa b n h=>key _ _ _ h ?_,λa b c n h=>key _ _ _ h ?_,λa b c d n h=>key _ _ _ h ?_,λa b c d e n h=>key _ _ _ h ?_⟩
 all_goals
  intro i _
  match i with
  | 0=>rfl
  | 1=>rfl
  | 2=>rfl
  | 3=>rfl
  | 4=>rfl
  | i+5=>simp[qK]
theorem abR :
  (∀tm ob d p,St.put ⟨tm,ob⟩ (some d) p=⟨tm.set d p,ob⟩)∧
  (∀tm ob p,St.put ⟨tm,ob⟩ none p=⟨tm,ob⟩)∧
  (∀tm ob t,St.ev ⟨tm,ob⟩ (.tmp t)=tm.getD t .dead)∧
  (∀(S:St) v,S.ev (.const v)=.vM v)∧
  (∀(S:St) f,S.ev (.func f)=.fn f [] [])∧
  (∀k n,PV.vM (.int k n)=.int k n)∧(∀b,PV.vM (.bool b)=.bool b)∧(∀l,PV.vM (.string ⟨⟨l⟩⟩)=.str l)∧
  (PV.vM (.slice none 0 0)=.sl 0 [] (some true))∧(PV.vM (.pointer none)=.A_)∧(PV.vM .nilFunc=.CQ):=
 ⟨λ_ _ _ _=>rfl,λ_ _ _=>rfl,λ_ _ _=>rfl,λ_ _=>rfl,λ_ _=>rfl,
  λ_ _=>rfl,λ_=>rfl,λ_=>rfl,rfl,rfl,rfl⟩
end Lp
namespace Lp
open Go
def aM(n:Nd):PV:=.agg [.int .i64 n.kind,.int .i64 n.many,.str n.name,.str n.s,.bool n.neg,.int .i64 n.e]
def aj(v:Vl):PV:=.sl 6 (v.map aM) none
end Lp
namespace Lp
open Go
def aes(ops:List Oper)(j:Nat):Option Nat:=(ops[j]?).bind (·.dst)
def abS(l:List Nat)(x:Nat):Bool:=l.any (Nat.beq x)
def aeu(own:List Nat):Option Nat→Bool
 | some d=>abS own d
 | none=>false
def stepG(own:List Nat)(ops:List Oper)(o:Oper):Step:=⟨o.dst,o.op,match o.guard with
 | none=>none
 | some (j,b)=>some (aes ops j,b),aeu own o.dst⟩
abbrev LpH:=Nat×Option (Nat×Nat)
def aev(nt m:Nat):List Bool:=(List.range nt).map (Nat.testBit m)
def abT:List Nat→Nat→Nat
 | [],_=>0
 | x::l,id=>bif Nat.blt 999 x && Nat.beq (x % 1000) id then x / 1000 else abT l id
def Xp(b:Nat)(ss:List Step)(un:List Nat):LC:=
 match b with
 | 0=>.draw ss un
 | b+1=>.NZ (b+1) ss un
theorem Oj(b:Nat)(ss:List Step)(un:List Nat):strip (Xp b ss un)=.draw (ss.map uF) un:=by cases b<;>rfl
def wJ(nt:Nat)(own wk:List Nat):Code→List LpH→LC×List LpH
 | .skip,k=>(.skip,k)
 | .ret,k=>(.ret,k)
 | .exit id,k=>(.exit id,k)
 | .region id ops false,k=>(bif abS wk id then .weak (.reg (ops.toList.map (stepG own ops.toList))) else .reg (ops.toList.map (stepG own ops.toList)),k)
 | .region id ops true,k=>(bif abS wk id then .weak (Xp (abT wk id) (ops.toList.map (stepG own ops.toList)) (jd ops.toList (masks ops.toList []))) else Xp (abT wk id) (ops.toList.map (stepG own ops.toList)) (jd ops.toList (masks ops.toList [])),k)
 | .seq a b,k=>
  match wJ nt own wk a k with
  | (x,k')=>match wJ nt own wk b k' with
   | (y,k'')=>(.seq x y,k'')
 | .cond c a b,k=>
  match wJ nt own wk a k with
  | (x,k')=>match wJ nt own wk b k' with
   | (y,k'')=>(.cond c x y,k'')
 | .block id b,k=>
  match wJ nt own wk b k with
  | (x,k')=>(.block id x,k')
 | .loop b,k=>
  match wJ nt own wk b k.tail with
  | (x,k')=>(.loop (aev nt (k.headD (0,none)).1) (k.headD (0,none)).2 x,k')
 | .rangeFunc f ps a b,k=>
  match wJ nt own wk a k.tail with
  | (x,k')=>match wJ nt own wk b k' with
   | (y,k'')=>(.rf f ps.toList (k.headD (0,none)).2 x y,k'')
 | _,k=>(.bad,k)
def gen(own:List Nat)(lps:List LpH)(wk:List Nat)(f:Func):LC:=
 match f.body with
 | some c=>(wJ f.ntmps own wk c lps).1
 | none=>.bad
def iq:Code→Bool
 | .region _ ops true=>dA ops.toList (masks ops.toList []) && dN ops.toList
 | .seq a b=>iq a && iq b
 | .cond _ a b=>iq a && iq b
 | .block _ c=>iq c
 | .loop c=>iq c
 | .rangeFunc _ _ a b=>iq a && iq b
 | _=>true
theorem Ee(own:List Nat)(ops l:List Oper):(l.map (stepG own ops)).map uF=l.map (stepOf ops):=by
 rw[List.map_map]
 exact List.map_congr_left λo _=>rfl
theorem Bw(b:Bool)(c:LC):strip (bif b then .weak c else c)=strip c:=by cases b<;>rfl
theorem iT(nt:Nat)(own wk:List Nat):∀(c:Code),iq c=true→∀(k:List LpH),strip (wJ nt own wk c k).1=comp c
 | .skip,_,_=>rfl
 | .ret,_,_=>rfl
 | .exit _,_,_=>rfl
 | .region id ops false,_,_=>by
  simp only[wJ,Bw,strip,Ee,comp]
 | .region id ops true,h,_=>by
  simp only[iq]at h
  simp only[wJ,Bw,Oj,Ee,comp,h,cond_true]
 | .seq a b,h,k=>by
  simp only[iq,Bool.and_eq_true]at h
  simp only[wJ,strip,comp,iT nt own wk a h.1,iT nt own wk b h.2]
 | .cond c a b,h,k=>by
  simp only[iq,Bool.and_eq_true]at h
  simp only[wJ,strip,comp,iT nt own wk a h.1,iT nt own wk b h.2]
 | .block id c,h,k=>by
  simp only[iq]at h
  simp only[wJ,strip,comp,iT nt own wk c h]
 | .loop c,h,k=>by
  simp only[iq]at h
  simp only[wJ,strip,comp,iT nt own wk c h]
 | .rangeFunc f ps a b,h,k=>by
  simp only[iq,Bool.and_eq_true]at h
  simp only[wJ,strip,comp,iT nt own wk a h.1,iT nt own wk b h.2]
 | .scope _,_,_=>rfl
 | .label _,_,_=>rfl
 | .goto _,_,_=>rfl
 | .refuse _,_,_=>rfl
def okF(f:Func)(n:Nat):Bool:=!(f.name== "runtime.NumGoroutine") && Nat.beq f.ntmps n && match f.body with | some c=>iq c | none=>false
theorem bP{P:Program}{f:FuncId}{fn:Func}{n:Nat}{rs:List ResultVar}{own wk:List Nat}{lps:List LpH}(h:P.funcs[f]?=some fn)(hr:fn.results=rs.toArray)(hk:okF fn n=true):aW P f n rs (gen own lps wk fn):=by
 unfold okF at hk
 rw[Bool.and_eq_true,Bool.and_eq_true]at hk
 obtain⟨⟨h1,h2⟩,h3⟩:=hk
 cases hb:fn.body with
 | none=>rw[hb]at h3;cases h3
 | some c=>
  rw[hb]at h3
  refine⟨fn,c,h,by simpa using h1,hb,Nat.eq_of_beq_eq_true h2,hr,?_⟩
  unfold gen
  rw[hb]
  exact iT _ _ _ _ h3 _
def Xq(P:Program)(t:TypeId):aD:=
 match P.info? t,P.underlying t with
 | some i,some d=>match i.zero with
  | some z=>bif Nat.beq t MT then aD.off else ⟨kindOf d,i.size,i.bytes,z⟩
  | none=>aD.off
 | _,_=>aD.off
theorem Xr{P:Program}(t:TypeId):fB P t (Xq P t):=by
 unfold Xq
 split
 ·rename_i i d hi hu
  split
  ·rename_i z hz
   cases hm:Nat.beq t MT with
   | true=>exact Lx
   | false=>exact abM (by rw[hi,Option.map_some,hz]) (by rw[hu];rfl) hm
  ·exact Lx
 ·exact Lx
end Lp
namespace Lp
open Go Go.Proofs
noncomputable def D:TypeId→aD:=Xq Tryz.prog
theorem hD(t:TypeId):fB Tryz.prog t (D t):=Xr t
theorem bE:Tryz.prog.follows .mixedOrders=true:=by kernel_rfl
theorem dX:D 3=⟨(.int .i64),1,8,.int .i64 0⟩∧D 4=⟨.bool,1,1,.bool false⟩∧D 5=⟨(.int .u8),1,1,.int .u8 0⟩∧D 9=⟨.str,1,16,.string ⟨⟨[]⟩⟩⟩∧D 21=⟨(.int .i32),1,4,.int .i32 0⟩∧D 23=⟨(.slice 46),1,24,.slice none 0 0⟩∧D 27=⟨(.slice 38),1,24,.slice none 0 0⟩∧D 31=⟨(.int .i64),1,8,.int .i64 0⟩∧D 36=⟨(.slice 43),1,24,.slice none 0 0⟩∧D 38=⟨(.struct [(0,3),(1,36),(2,23)]),3,56,.agg ⟨[.int .i64 0,.slice none 0 0,.slice none 0 0]⟩⟩∧D 43=⟨(.struct [(0,4),(1,9),(2,3)]),3,32,.agg ⟨[.bool false,.string ⟨⟨[]⟩⟩,.int .i64 0]⟩⟩∧D 46=⟨(.struct [(0,3),(1,3),(2,9),(3,9),(4,4),(5,3)]),6,64,.agg ⟨[.int .i64 0,.int .i64 0,.string ⟨⟨[]⟩⟩,.string ⟨⟨[]⟩⟩,.bool false,.int .i64 0]⟩⟩∧D 64=⟨(.slice 23),1,24,.slice none 0 0⟩∧D 75=⟨(.slice 9),1,24,.slice none 0 0⟩∧D 80=⟨(.slice 3),1,24,.slice none 0 0⟩∧D 85=⟨(.struct [(0,3),(1,3),(2,4),(3,9)]),4,40,.agg ⟨[.int .i64 0,.int .i64 0,.bool false,.string ⟨⟨[]⟩⟩]⟩⟩∧D 86=⟨(.slice 85),1,24,.slice none 0 0⟩∧D 101=⟨(.slice 4),1,24,.slice none 0 0⟩∧D 102=⟨(.map 9 23),1,8,.map none⟩∧D 114=⟨(.slice 80),1,24,.slice none 0 0⟩∧D 122=⟨(.int .u64),1,8,.int .u64 0⟩:=by (repeat' constructor)<;>kernel_rfl
end Lp
namespace Lp
open Go Go.Proofs
theorem Db:aW Tryz.prog 8 34 [.tmp 4] (gen [] [(33,none)] [] Tryz.f8):=bP Tryz.func8 rfl (by kernel_rfl)
theorem Bz:aW Tryz.prog 16 26 [.tmp 4] (gen [] [(35,none)] [] Tryz.f16):=bP Tryz.func16 rfl (by kernel_rfl)
theorem Dc:aW Tryz.prog 37 17 [.tmp 2] (gen [] [(9,none)] [] Tryz.f37):=bP Tryz.func37 rfl (by kernel_rfl)
theorem Ab:aW Tryz.prog 19 39 [.tmp 2] (gen [] [(9,none)] [] Tryz.f19):=bP Tryz.func19 rfl (by kernel_rfl)
theorem Ef:aW Tryz.prog 76 19 [.tmp 2] (gen [] [(0,none)] [] Tryz.f76):=bP Tryz.func76 rfl (by kernel_rfl)
theorem Eg:aW Tryz.prog 52 15 [.tmp 2] (gen [] [(0,none)] [] Tryz.f52):=bP Tryz.func52 rfl (by kernel_rfl)
theorem Ac:aW Tryz.prog 40 28 [.tmp 2] (gen [7] [(57,none)] [] Tryz.f40):=bP Tryz.func40 rfl (by kernel_rfl)
theorem Ad:aW Tryz.prog 62 34 [.tmp 2] (gen [6] [(57,none)] [] Tryz.f62):=bP Tryz.func62 rfl (by kernel_rfl)
noncomputable def qZ:LC:=(gen [] [] [] Tryz.f61)
theorem BA:aW Tryz.prog 61 109 [.tmp 4] qZ:=bP Tryz.func61 rfl (by kernel_rfl)
theorem BB:aW Tryz.prog 34 41 [.tmp 4] (gen [] [(35,none)] [] Tryz.f34):=bP Tryz.func34 rfl (by kernel_rfl)
theorem Ae:aW Tryz.prog 35 48 [.tmp 2] (gen [] [] [] Tryz.f35):=bP Tryz.func35 rfl (by kernel_rfl)
theorem yT:aW Tryz.prog 36 75 [.tmp 4] (gen [] [(99,none)] [] Tryz.f36):=bP Tryz.func36 rfl (by kernel_rfl)
theorem yU:aW Tryz.prog 125 6 [.tmp 2] (gen [] [] [] Tryz.f125):=bP Tryz.func125 rfl (by kernel_rfl)
theorem Ri:aW Tryz.prog 80 4 [.tmp 2] (gen [] [] [] Tryz.f80):=bP Tryz.func80 rfl (by kernel_rfl)
theorem Df:aW Tryz.prog 64 23 [.tmp 6] (gen [9] [] [] Tryz.f64):=bP Tryz.func64 rfl (by kernel_rfl)
theorem BD:aW Tryz.prog 86 21 [.tmp 4] (gen [] [] [] Tryz.f86):=bP Tryz.func86 rfl (by kernel_rfl)
theorem Af:aW Tryz.prog 60 72 [.tmp 2] (gen [] [] [1] Tryz.f60):=bP Tryz.func60 rfl (by kernel_rfl)
theorem LF:aW Tryz.prog 107 34 [] (gen [] [(1547,none)] [6] Tryz.f107):=bP Tryz.func107 rfl (by kernel_rfl)
theorem LG:aW Tryz.prog 108 19 [.tmp 4] (gen [] [(35,none)] [] Tryz.f108):=bP Tryz.func108 rfl (by kernel_rfl)
theorem gM:aW Tryz.prog 109 8 [.tmp 2] (gen [5] [] [] Tryz.f109):=bP Tryz.func109 rfl (by kernel_rfl)
theorem wK:aW Tryz.prog 85 20 [.tmp 2] (gen [] [(9,none)] [] Tryz.f85):=bP Tryz.func85 rfl (by kernel_rfl)
end Lp
namespace Lp
open Go
structure HK {α:Type}(K:α→Prop):Type where
def atO{α:Type}{K:α→Prop}(o:Option α)(_h:HK K):Prop:=∃x,o=some x∧K x
theorem atR{α:Type}(K:α→Prop):(∀x,atO (some x) (HK.mk:HK K)=K x)∧(∀(a:α) l,(a::l)[0]?=some a)∧(∀(a:α) l (n:Nat),(a::l)[n+1]?=l[n]?):=
 ⟨λx=>by simp[atO],λ_ _=>rfl,λ_ _ _=>by simp⟩
def Km(k:TK)(K:TypeId→Prop):Prop:=match k with
 | .slice e=>K e
 | _=>False
def arK(k:TK)(K:Nat→TypeId→Prop):Prop:=match k with
 | .array n e=>K n e
 | _=>False
def LH(k:TK)(X:Prop):Prop:=match k with
 | .str=>X
 | _=>False
@[congr] theorem acB{k k':TK}{K:TypeId→Prop}(h:k=k'):Km k K=Km k' K:=by rw[h]
@[congr] theorem acC{k k':TK}{K:Nat→TypeId→Prop}(h:k=k'):arK k K=arK k' K:=by rw[h]
@[congr] theorem abU{k k':TK}{X:Prop}(h:k=k'):LH k X=LH k' X:=by rw[h]
theorem skR:(∀e K,Km (.slice e) K=K e)∧(∀n e K,arK (.array n e) K=K n e)∧(∀X,LH .str X=X):=⟨λ_ _=>rfl,λ_ _ _=>rfl,λ_=>rfl⟩
theorem Xt(D:TypeId→aD)(objs:List Obj)(K:KT) :
  (∀t sz xs q k n,bH D t (.sl sz xs q) (.int k n) objs K=Km (D t).kind λe=>(D e).kind≠.none∧0≤n∧(D e).size=sz∧atO xs[n.toNat]? (HK.mk:HK λy=>K (.addr y) objs 0))∧
  (∀t k ver k' n,bH D t (.aS k ver) (.int k' n) objs K=Km (D t).kind λe=>(D e).kind≠.none∧0≤n∧∃o,objs[k]?=some o∧o.live=true∧o.ver=ver∧n<o.xs.length∧(D e).size=o.sz∧K (.bf k ver n.toNat 0) objs (4+2*k))∧
  (∀t cs k n,bH D t (.addr (.agg cs)) (.int k n) objs K=arK (D t).kind λm e=>(D e).kind≠.none∧0≤n∧n<m∧(n.toNat+1)*(D e).size≤cs.length∧((D e).agg=false→(D e).size=1)∧cs.all (λc=>!c.isAgg)=true∧
   K (.addr (sub cs (n.toNat*(D e).size) (D e).size (D e).agg)) objs 0)∧
  (∀t k ver i f k' n,bH D t (.bf k ver i f) (.int k' n) objs K=arK (D t).kind λm e=>(D e).kind≠.none∧0≤n∧n<m∧∃o,objs[k]?=some o∧o.live=true∧o.ver=ver∧K (.bf k ver i (f+n.toNat*(D e).size)) objs (4+2*k))∧
  (∀t s k n,lg D t (.str s) (.int k n) objs K=LH (D t).kind (0≤n∧atO s[n.toNat]? (HK.mk:HK λb=>K (.int .u8 b.toNat) objs 0)))∧
  (∀t cs k n,lg D t (.agg cs) (.int k n) objs K=arK (D t).kind λm e=>(D e).kind≠.none∧0≤n∧n<m∧(n.toNat+1)*(D e).size≤cs.length∧(D e).size≠0∧K (sub cs (n.toNat*(D e).size) (D e).size (D e).agg) objs 0)∧
  (∀t cs f,aU D t (.addr (.agg cs)) f objs K=dU D t f λoff ti=>off+ti.size≤cs.length∧(ti.agg=false→ti.size=1)∧cs.all (λc=>!c.isAgg)=true∧K (.addr (sub cs off ti.size ti.agg)) objs 0)∧
  (∀t k ver i f' f,aU D t (.bf k ver i f') f objs K=∃o,objs[k]?=some o∧o.live=true∧o.ver=ver∧dU D t f λoff _=>K (.bf k ver i (f'+off)) objs (4+2*k))∧
  (∀t cs f,oQ D t (.agg cs) f objs K=dU D t f λoff ti=>off+ti.size≤cs.length∧K (sub cs off ti.size ti.agg) objs 0)∧
  (∀t s,qL D t (.str s) objs K=LH (D t).kind (K (.int .i64 s.length) objs 0))∧
  (∀t sz xs q,qL D t (.sl sz xs q) objs K=Km (D t).kind λ_=>K (.int .i64 xs.length) objs 0)∧
  (∀t k ver,qL D t (.aS k ver) objs K=Km (D t).kind λ_=>∃o,objs[k]?=some o∧o.live=true∧o.ver=ver∧K (.int .i64 o.xs.length) objs (4+2*k))∧
  (∀t s lo hi,iB D t (.str s) lo hi objs K=LH (D t).kind (cK lo 0 λl=>cK hi s.length λh=>0≤l∧l≤h∧h≤s.length∧K (.str ((s.take h.toNat).drop l.toNat)) objs 0))∧
  (∀t sz xs q lo hi,iB D t (.sl sz xs q) lo hi objs K=Km (D t).kind λe=>(D e).kind≠.none∧(xs=[]∨(D e).size=sz)∧cK lo 0 λl=>cK hi xs.length λh=>0≤l∧l≤h∧h≤xs.length∧
   K (.sl sz ((xs.take h.toNat).drop l.toNat) q) objs 0)∧
  (∀t k ver lo hi,iB D t (.aS k ver) lo hi objs K=Km (D t).kind λe=>(D e).kind≠.none∧∃o,objs[k]?=some o∧o.live=true∧o.ver=ver∧(D e).size=o.sz∧lo=none∧cK hi o.xs.length λh=>0≤h∧h≤o.xs.length∧
   K (.aS k (ver+1)) (objs.set k { o with xs:=o.xs.take h.toNat,ver:=ver+1 }) (5+2*k)):=by
 refine⟨λt sz xs q k n=>?_,λt k ver k' n=>?_,λt cs k n=>?_,λt k ver i f k' n=>?_,λt s k n=>?_,λt cs k n=>?_,λ_ _ _=>rfl,λ_ _ _ _ _ _=>rfl,λ_ _ _=>rfl,λt s=>?_,λt sz xs q=>?_,λt k ver=>?_,λt s lo hi=>?_,λt sz xs q lo hi=>?_,λt k ver lo hi=>?_⟩
 all_goals try simp only[bH,lg,qL,iB]
 all_goals cases (D t).kind<;>simp only[Km,arK,LH,atO]
 apply propext
 constructor
 ·rintro⟨h1,h2,y,h3,h4,h5⟩;exact⟨h1,h2,h4,y,h3,h5⟩
 ·rintro⟨h1,h2,h4,y,h3,h5⟩;exact⟨h1,h2,y,h3,h4,h5⟩
theorem ldR(objs:List Obj)(K:KT) :
  (∀ti x,eD ti (.addr x) objs K=(ti.kind≠.none∧x.cells.length=ti.size∧x.isAgg=ti.agg∧K x objs 0))∧
  (∀ti k ver i f,eD ti (.bf k ver i f) objs K=∃o e,objs[k]?=some o∧o.live=true∧o.ver=ver∧o.xs[i]?=some e∧ti.kind≠.none∧f+ti.size≤e.cells.length∧
   (ti.agg=false→ti.size=1)∧e.cells.all (λc=>!c.isAgg)=true∧K (sub e.cells f ti.size ti.agg) objs (4+2*k)):=⟨λ_ _=>rfl,λ_ _ _ _ _=>rfl⟩
theorem Xu(D:TypeId→aD)(objs:List Obj)(K:List PV→Bool→Prop) :
  (∀t sz xs q,ng D t (.sl sz xs q) objs K=Km (D t).kind λ_=>K xs false)∧
  (∀t k ver,ng D t (.aS k ver) objs K=Km (D t).kind λ_=>∃o,objs[k]?=some o∧o.live=true∧o.ver=ver∧K o.xs true)∧
  (∀t s,ng D t (.str s) objs K=LH (D t).kind (K (s.map λb=>.int .u8 b.toNat) false)):=by
 refine⟨λt sz xs q=>?_,λt k ver=>?_,λt s=>?_⟩
 all_goals simp only[ng]
 all_goals cases (D t).kind<;>simp only[Km,LH]
@[congr] theorem abV{D:TypeId→aD}{t:TypeId}{x x':PV}{objs ai:List Obj}{K:List PV→Bool→Prop}(h:x=x')(ho:objs=ai):ng D t x objs K=ng D t x' ai K:=by rw[h,ho]
theorem ntR:noTwo []=true∧(∀l,noTwo (0::l)=noTwo l)∧(∀l,noTwo (1::l)=noTwo l)∧(∀l,noTwo (4::l)=noTwo l)∧(∀l,noTwo (6::l)=noTwo l)∧(∀l,noTwo (8::l)=noTwo l)∧(∀l,noTwo (10::l)=noTwo l):=
 ⟨rfl,λ_=>rfl,λ_=>rfl,λ_=>rfl,λ_=>rfl,λ_=>rfl,λ_=>rfl⟩
theorem yV{α:Type}{E:List α→PV}{sz:Nat}{enc:α→PV}(hE:∀l,E l=.sl sz (l.map enc) none)(D:TypeId→aD)(objs:List Obj)(K:KT) :
  (∀t l k n,bH D t (E l) (.int k n) objs K=Km (D t).kind λe=>(D e).kind≠.none∧0≤n∧(D e).size=sz∧atO l[n.toNat]? (HK.mk:HK λy=>K (.addr (enc y)) objs 0))∧
  (∀t l,qL D t (E l) objs K=Km (D t).kind λ_=>K (.int .i64 l.length) objs 0)∧
  (∀t l lo hi,iB D t (E l) lo hi objs K=Km (D t).kind λe=>(D e).kind≠.none∧(l=[]∨(D e).size=sz)∧cK lo 0 λa=>cK hi l.length λh=>0≤a∧a≤h∧h≤l.length∧
   K (E ((l.take h.toNat).drop a.toNat)) objs 0):=by
 refine⟨λt l k n=>?_,λt l=>?_,λt l lo hi=>?_⟩
 all_goals simp only[hE,(Xt D objs K).1,(Xt D objs K).2.2.2.2.2.2.2.2.2.2.1,(Xt D objs K).2.2.2.2.2.2.2.2.2.2.2.2.2.1]
 all_goals cases (D t).kind<;>simp only[Km,atO,List.length_map,List.map_eq_nil_iff,List.map_drop,List.map_take]
 apply propext
 constructor
 ·rintro⟨h1,h2,h4,y,h3,h5⟩
  rw[List.getElem?_map]at h3
  cases hx:l[n.toNat]? with
  | none=>rw[hx]at h3;simp at h3
  | some x=>rw[hx]at h3;simp only[Option.map_some,Option.some.injEq]at h3;exact⟨h1,h2,h4,x,rfl,h3 ▸ h5⟩
 ·rintro⟨h1,h2,h4,y,h3,h5⟩
  exact⟨h1,h2,h4,enc y,by rw[List.getElem?_map,h3];rfl,h5⟩
theorem l8{α:Type}{E:List α→PV}{sz:Nat}{enc:α→PV}(hE:∀l,E l=.sl sz (l.map enc) none)(D:TypeId→aD)(objs:List Obj)(K:List PV→Bool→Prop) :
  (∀t l,ng D t (E l) objs K=Km (D t).kind λ_=>K (l.map enc) false):=by
 intro t l
 rw[hE]
 exact (Xu D objs K).1 ..
theorem yX{α:Type}{E:List α→PV}{sz:Nat}{enc:α→PV}(hE:∀l,E l=.sl sz (l.map enc) none) :
  (∀l,(E l).cells=[E l])∧(∀l,(E l).isAgg=false)∧(∀l,(E l).pure=true)∧(∀l,(E l).ref=false)∧(∀l,(E l).mD=true)∧(∀l,(E l).storable=true)∧
  (∀d n O l,fA d n O (E l)=E l)∧(∀d n O l,jG d n O (E l)=E l):=by
 refine⟨λl=>?_,λl=>?_,λl=>?_,λl=>?_,λl=>?_,λl=>?_,λ_ _ _ l=>?_,λ_ _ _ l=>?_⟩
 all_goals rw[hE];rfl
def gD{α:Type}(E:α→PV){K:α→Prop}(x:PV)(_h:HK K):Prop:=∃v,x=E v∧K v
theorem bq{α:Type}{E:α→PV}(hE:∀a b,E a=E b→a=b)(K:α→Prop)(v:α):gD E (E v) (HK.mk:HK K)=K v:=
 propext ⟨λ⟨w,h,hk⟩=>hE v w h ▸ hk,λhk=>⟨v,rfl,hk⟩⟩
theorem q8{α:Type}{E:List α→PV}{sz:Nat}{enc:α→PV}(hE:∀l,E l=.sl sz (l.map enc) none)(he:∀a b,enc a=enc b→a=b):∀a b,E a=E b→a=b:=by
 intro a b h
 rw[hE,hE]at h
 injection h with _ h _
 induction a generalizing b with
 | nil=>cases b with
  | nil=>rfl
  | cons y ys=>simp at h
 | cons x xs ih=>cases b with
  | nil=>simp at h
  | cons y ys=>
   simp only[List.map_cons,List.cons.injEq]at h
   rw[he x y h.1,ih ys h.2]
theorem exS{α:Type}(a:α)(q:α→Prop):(∃o,some a=some o∧q o)=q a:=by simp
theorem ada:(∀k n,PV.storable (.int k n)=true)∧(∀b,PV.storable (.bool b)=true)∧(∀s,PV.storable (.str s)=true)∧(∀z xs q,PV.storable (.sl z xs q)=true)∧
  (∀k v,PV.storable (.aS k v)=true)∧(∀k v i f,PV.storable (.bf k v i f)=true)∧(∀x,PV.storable (.addr x)=true):=
 ⟨λ_ _=>rfl,λ_=>rfl,λ_=>rfl,λ_ _ _=>rfl,λ_ _=>rfl,λ_ _ _ _=>rfl,λ_=>rfl⟩
theorem Xv{α β:Type}(f:α→β)(l m:List α):l.map f++m.map f=(l++m).map f:=by simp
def zG{α:Type}(enc:α→PV):Prop:=∀d n objs x,PV.bJ (kD d n objs) (enc x)=enc x
theorem iE{α:Type}{E:List α→PV}{sz:Nat}{enc:α→PV}(hE:∀l,E l=.sl sz (l.map enc) none)(h:zG enc) :
  (∀d ty l v rest,fA (d+1) 0 (⟨ty,sz,l.map enc,true,v⟩::rest) (.aS 0 v)=E l)∧
  (∀d ty l v o rest,fA (d+1) 0 (o::⟨ty,sz,l.map enc,true,v⟩::rest) (.aS 1 v)=E l)∧
  (∀d ty l v o o' rest,fA (d+1) 0 (o::o'::⟨ty,sz,l.map enc,true,v⟩::rest) (.aS 2 v)=E l):=by
 have key:∀d ty l v objs k,objs[k]?=some ⟨ty,sz,l.map enc,true,v⟩→fA (d+1) 0 objs (.aS k v)=E l:=by
  intro d ty l v objs k hk
  simp only[fA,Nat.not_lt_zero,if_false,kD,hk,Nat.zero_le,decide_true,Bool.and_self,BEq.rfl,if_true]
  rw[hE]
  congr 1
  rw[List.map_map]
  exact List.map_congr_left λx _=>h d 0 objs x
 exact⟨λd ty l v rest=>key d ty l v _ 0 rfl,λd ty l v o rest=>key d ty l v _ 1 rfl,λd ty l v o o' rest=>key d ty l v _ 2 rfl⟩
theorem wL{α:Type}{enc:α→PV}{sz:Nat}(h1:∀x,(enc x).cells.length=sz)(h2:∀x,(enc x).cells.all PV.storable=true)(l:List α) :
  (∀y,y∈l.map enc→y.cells.length=sz∧y.cells.all PV.storable=true)=True:=by
 refine eq_true λy hy=>?_
 obtain⟨x,_,rfl⟩:=List.mem_map.1 hy
 exact⟨h1 x,h2 x⟩
theorem aaU(y0:PV)(sz:Nat):(∀y,y∈[y0]→y.cells.length=sz∧y.cells.all PV.storable=true)=(y0.cells.length=sz∧y0.cells.all PV.storable=true):=by simp
theorem Qu(E:PV)(h:E.ref=false)(k:Nat):(∀k' v':Nat,E=.aS k' v'→¬ k'=k)=True:=by
 refine eq_true λk' v' he=>?_
 rw[he]at h;cases h
def q9:List Bool→Nat→List (Nat×PV)→List (Nat×PV)
 | [],_,_=>[]
 | true::ks,i,l=>(i,qK l i)::q9 ks (i+1) l
 | false::ks,i,l=>q9 ks (i+1) l
theorem Gv:∀(ks:List Bool) (j:Nat) (l:List (Nat×PV)) (i:Nat),qK (q9 ks j l) i=if j≤i∧ks[i-j]?=some true then qK l i else .dead
 | [],j,l,i=>by simp[q9,qK]
 | true::ks,j,l,i=>by
  simp only[q9,qK]
  by_cases h:i=j
  ·subst h;simp
  ·rw[if_neg h,Gv ks (j+1) l i]
   by_cases hj:j+1≤i
   ·have e:i-j=(i-(j+1))+1:=by omega
    simp only[e,List.getElem?_cons_succ,hj,true_and,show j≤i by omega]
   ·rw[if_neg (by omega),if_neg (by omega)]
 | false::ks,j,l,i=>by
  simp only[q9]
  rw[Gv ks (j+1) l i]
  by_cases h:i=j
  ·subst h;rw[if_neg (by omega),if_neg (by simp)]
  ·by_cases hj:j+1≤i
   ·have e:i-j=(i-(j+1))+1:=by omega
    simp only[e,List.getElem?_cons_succ,hj,true_and,show j≤i by omega]
   ·rw[if_neg (by omega),if_neg (by omega)]
theorem Ol(ks:List Bool)(n:Nat)(l:List (Nat×PV)):yR ks (dD n l)=dD n (q9 ks 0 l):=by
 refine x9 (by simp[nQ,lD]) λi hi=>?_
 rw[wI,uH,if_pos hi,Gv]
 simp
theorem cB :
  (∀ks n l ob,St.norm ks none ⟨dD n l,ob⟩=⟨dD n (q9 ks 0 l),ob⟩)∧
  (∀ks d k n l ob,St.norm ks (some (d,k)) ⟨dD n l,ob⟩=St.freeze d k ⟨dD n (q9 ks 0 l),ob⟩):=by
 refine⟨λks n l ob=>?_,λks d k n l ob=>?_⟩
 ·simp only[St.norm,St.forget,Ol]
 ·simp only[St.norm,St.forget,Ol]
theorem keepR:(∀i l,q9 [] i l=[])∧(∀ks i l,q9 (true::ks) i l=(i,qK l i)::q9 ks (i+1) l)∧(∀ks i l,q9 (false::ks) i l=q9 ks (i+1) l):=
 ⟨λ_ _=>rfl,λ_ _ _=>rfl,λ_ _ _=>rfl⟩
theorem adb(T:Know)(K:KT)(objs:List Obj)(pt:Bool) :
  (∀g args,pu T pt (.fn g [] []) args objs K=T.fn g args objs K)∧
  (∀g c,pu T pt (.fn g [] [c]) [] objs K=T.fn g [c] objs K)∧
  (∀g c a,pu T pt (.fn g [] [c]) [a] objs K=T.fn g [a,c] objs K)∧
  (∀g c a b,pu T pt (.fn g [] [c]) [a,b] objs K=T.fn g [a,b,c] objs K)∧
  (∀g c d a,pu T pt (.fn g [] [c,d]) [a] objs K=T.fn g [a,c,d] objs K)∧
  (∀g c d a b,pu T pt (.fn g [] [c,d]) [a,b] objs K=T.fn g [a,b,c,d] objs K)∧
  (∀l args,pu T pt (.qI l) args objs K=(l=T.y∧pt=true∧args.all PV.pure=true∧T.Y args objs λb o=>K (.bool b) o 2)):=by
 refine⟨λg args=>?_,λ_ _=>rfl,λ_ _ _=>rfl,λ_ _ _ _=>rfl,λ_ _ _ _=>rfl,λ_ _ _ _ _=>rfl,λ_ _=>rfl⟩
 simp[pu]
theorem ZF(K:KT)(objs:List Obj)(args:List PV)(c:d9)(l:List (FuncId×d9))(f:FuncId) :
  (lu ((f,c)::l) f args objs K=c args objs K)∧(∀g,(f==g)=false→lu ((g,c)::l) f args objs K=lu l f args objs K):=by
 refine⟨by simp[lu],λg h=>?_⟩
 rw[taR,h];rfl
@[congr] theorem Xw{D:TypeId→aD}{b:Builtin}{ats ade:List TypeId}{args args':List Operand}{ev:Operand→PV}{objs:List Obj}{K:KT}(h:ats=ade)(h1:args=args'):dZ D b ats args ev objs K=dZ D b ade args' ev objs K:=by rw[h,h1]
theorem aaV(P:Program)(D:TypeId→aD)(T:Know)(w pt:Bool)(ev:Operand→PV)(objs:List Obj)(K:KT) :
  (∀x,kX P D T w pt ev objs (.move x) K=K (ev x) objs 0)∧(∀x,kX P D T w pt ev objs (.assign x) K=K (ev x) objs 0)∧
  (∀c x y,kX P D T w pt ev objs (.pick c x y) K=vN (ev c) (ev x) (ev y) objs K)∧
  (∀t,kX P D T w pt ev objs (.alloc t) K=rJ t (D t) objs K)∧
  (∀t x,kX P D T w pt ev objs (.box t x) K=K3 t (D t) (ev x) objs K)∧
  (∀t ps,kX P D T w pt ev objs (.build t ps) K=dh D t (ps.toList.map λx=>(x.1,ev x.2)) objs K)∧
  (∀t n ps,kX P D T w pt ev objs (.buildSlice t n ps) K=bL D w t n (ps.toList.map λx=>(x.1,ev x.2)) objs K)∧
  (∀t x,kX P D T w pt ev objs (.load t x) K=eD (D t) (ev x) objs K)∧
  (∀t x y,kX P D T w pt ev objs (.store t x y) K=jo (D t) (ev x) (ev y) objs K)∧
  (∀x,kX P D T w pt ev objs (.nilCheck x) K=dx (ev x) objs K)∧
  (∀b t x y t',kX P D T w pt ev objs (.binOp b t x y t') K=oP P (D t) t b (ev x) (ev y) λr=>K r objs 0)∧
  (∀u t x,kX P D T w pt ev objs (.unOp u t x) K=Nh u (ev x) λr=>K r objs 0)∧
  (∀s t x,kX P D T w pt ev objs (.convert s t x) K=qR D s t (ev x) objs K)∧
  (∀f first cap,kX P D T w pt ev objs (.makeFunc (.func f) first cap) K=kC f (first.toList.map ev) (cap.toList.map ev) objs K)∧
  (∀t l c,kX P D T w pt ev objs (.makeSlice t l c) K=d_ D t (ev l) (ev c) objs K)∧
  (∀t x lo hi,kX P D T w pt ev objs (.slice t x lo hi none) K=iB D t (ev x) (lo.map ev) (hi.map ev) objs K)∧
  (∀t x f,kX P D T w pt ev objs (.fieldAddr t x f) K=aU D t (ev x) f objs K)∧
  (∀t x f,kX P D T w pt ev objs (.field t x f) K=oQ D t (ev x) f objs K)∧
  (∀t x i,kX P D T w pt ev objs (.indexAddr t x i) K=bH D t (ev x) (ev i) objs K)∧
  (∀t x i,kX P D T w pt ev objs (.index t x i) K=lg D t (ev x) (ev i) objs K)∧
  (∀x i,kX P D T w pt ev objs (.extract x i) K=bW (ev x) i objs K)∧
  (∀t x,kX P D T w pt ev objs (.call { callee:=.builtin .len,args:=⟨[x]⟩,argTypes:=⟨[t]⟩ }) K=qL D t (ev x) objs K)∧
  (∀t u s x,kX P D T w pt ev objs (.call { callee:=.builtin .append,args:=⟨[s,x]⟩,argTypes:=⟨[t,u]⟩ }) K=dK D t u (ev s) (ev x) objs K)∧
  (∀x y ats,kX P D T w pt ev objs (.call { callee:=.builtin .max,args:=⟨[x,y]⟩,argTypes:=ats }) K=gK true [ev x,ev y] λr=>K r objs 0)∧
  (∀x y ats,kX P D T w pt ev objs (.call { callee:=.builtin .min,args:=⟨[x,y]⟩,argTypes:=ats }) K=gK false [ev x,ev y] λr=>K r objs 0):=
 ⟨λ_=>rfl,λ_=>rfl,λ_ _ _=>rfl,λ_=>rfl,λ_ _=>rfl,λ_ _=>rfl,λ_ _ _=>rfl,λ_ _=>rfl,λ_ _ _=>rfl,λ_=>rfl,λ_ _ _ _ _=>rfl,λ_ _ _=>rfl,λ_ _ _=>rfl,
  λ_ _ _=>rfl,λ_ _ _=>rfl,λ_ _ _ _=>rfl,λ_ _ _=>rfl,λ_ _ _=>rfl,λ_ _ _=>rfl,λ_ _ _=>rfl,λ_ _=>rfl,λ_ _=>rfl,λ_ _ _ _=>rfl,λ_ _ _=>rfl,λ_ _ _=>rfl⟩
theorem adf{α β:Type}(a:α)(q:α→β→Prop):(∃o e,some a=some o∧q o e)=∃e,q a e:=by simp
theorem setRow{α:Type}{enc:α→PV}(h:∀x y:α,(enc x).putCells 0 (enc y).cells=enc y)(l:List α)(i:Nat)(x y:α):(l.map enc).set i ((enc x).putCells 0 (enc y).cells)=(l.set i y).map enc:=by
 rw[h,List.map_set]
theorem adg(P:Program)(D:TypeId→aD)(T:Know) :
  (∀S ts (K:St→List Nat→Prop),LR P D T [] S ts K=K S ts)∧
  (∀d o w rest n l ob ts (K:St→List Nat→Prop),LR P D T (⟨some d,o,none,w⟩::rest) ⟨dD n l,ob⟩ ts K=
   kX P D T w ((dD n l).all PV.pure) (St.ev ⟨dD n l,ob⟩) ob o λr ai t=>LR P D T rest ⟨dD n ((d,r)::l),ai⟩ (ts++[t]) K)∧
  (∀o w rest n l ob ts (K:St→List Nat→Prop),LR P D T (⟨none,o,none,w⟩::rest) ⟨dD n l,ob⟩ ts K=
   kX P D T w ((dD n l).all PV.pure) (St.ev ⟨dD n l,ob⟩) ob o λr ai t=>LR P D T rest ⟨dD n l,ai⟩ (ts++[t]) K)∧
  (∀d o g v w rest n l ob ts (K:St→List Nat→Prop),LR P D T (⟨some d,o,some (some g,v),w⟩::rest) ⟨dD n l,ob⟩ ts K=
   lC ((dD n l).getD g .dead) g v ⟨dD n l,ob⟩ (λS=>LR P D T (⟨some d,o,none,w⟩::rest) S ts K) (λS=>LR P D T rest (S.put (some d) (.bY [])) (ts++[0]) K))∧
  (∀o g v w rest n l ob ts (K:St→List Nat→Prop),LR P D T (⟨none,o,some (some g,v),w⟩::rest) ⟨dD n l,ob⟩ ts K=
   lC ((dD n l).getD g .dead) g v ⟨dD n l,ob⟩ (λS=>LR P D T (⟨none,o,none,w⟩::rest) S ts K) (λS=>LR P D T rest S (ts++[0]) K)):=by
 refine⟨λ_ _ _=>rfl,λd o w rest n l ob ts K=>?_,λo w rest n l ob ts K=>rfl,λd o g v w rest n l ob ts K=>rfl,λo g v w rest n l ob ts K=>rfl⟩
 simp only[←uI.1]
 rfl
theorem ZG :
  (∀b d n l ob (X Y:St→Prop),lC (.bool b) d true ⟨dD n l,ob⟩ X Y=Aa b (X ⟨dD n ((d,.bool true)::l),ob⟩) (Y ⟨dD n ((d,.bool false)::l),ob⟩))∧
  (∀b d n l ob (X Y:St→Prop),lC (.bool b) d false ⟨dD n l,ob⟩ X Y=Aa b (Y ⟨dD n ((d,.bool true)::l),ob⟩) (X ⟨dD n ((d,.bool false)::l),ob⟩))∧
  (∀d w (S:St) (X Y:St→Prop),lC (.bY []) d w S X Y=Y S):=by
 refine⟨λb d n l ob X Y=>?_,λb d n l ob X Y=>?_,λ_ _ _ _ _=>rfl⟩
 ·simp only[ac_,uI.1]
 ·simp only[ac_,uI.1]
theorem aaW:(∀n l ob d p,St.put ⟨dD n l,ob⟩ (some d) p=⟨dD n ((d,p)::l),ob⟩):=λn l ob d p=>by
 rw[←uI.1];rfl
theorem aW.bR {P:Program}{D:TypeId→aD}{T:Know}{f:FuncId}{n t:Nat}{C:LC}{args:List PV}{r:PV}(h:aW P f n [.tmp t] C)(d:Nat)(hD:∀t,fB P t (D t))(hT:tL P none sJ T)(hm:P.follows .mixedOrders=true)(ht:t<n)
  (hw:∀Q:Exit→St→Prop,(∀l ob,Q .ret ⟨dD n l,ob⟩=(r=jG d 0 ob (qK l t)))→iK P D T C Q (aY args n)):av P f args [] r []:=by
 refine h.pure d hD hT hm (by simp) (hw _ λl ob=>?_)
 simp only[Bv,kT,uI.2.1 n l t ht,List.map_cons,List.map_nil,fU]
theorem aW.jS {P:Program}{D:TypeId→aD}{T:Know}{f:FuncId}{n t u:Nat}{C:LC}{args:List PV}{r:PV}(h:aW P f n [.tmp t,.tmp u] C)(d:Nat)(hD:∀t,fB P t (D t))(hT:tL P none sJ T)(hm:P.follows .mixedOrders=true)(ht:t<n)(hu:u<n)
  (hw:∀Q:Exit→St→Prop,(∀l ob,Q .ret ⟨dD n l,ob⟩=(r=.bY [jG d 0 ob (qK l t),jG d 0 ob (qK l u)]))→iK P D T C Q (aY args n)):av P f args [] r []:=by
 refine h.pure d hD hT hm (by simp) (hw _ λl ob=>?_)
 simp only[Bv,kT,uI.2.1 n l t ht,uI.2.1 n l u hu,List.map_cons,List.map_nil,fU]
theorem pkR(x y:PV)(objs:List Obj)(K:KT):(vN (.bool true) x y objs K=K x objs 0)∧(vN (.bool false) x y objs K=K y objs 0):=⟨rfl,rfl⟩
theorem ZH(P:Program)(D:TypeId→aD)(T:Know)(w pt:Bool)(ev:Operand→PV)(objs:List Obj)(K:KT) :
  (∀x,kX P D T w pt ev objs (.next x false) K=(T.rg=true∧nextR (ev x) objs K))∧(∀t x,kX P D T w pt ev objs (.range t x) K=uh D t (ev x) objs K)∧(∀x,kX P D T w pt ev objs (.entry x) K=uj (ev x) objs K):=
 ⟨λ_=>rfl,λ_ _=>rfl,λ_=>rfl⟩
theorem adh :
  type_of% @Nk∧
  type_of% @U9∧
  type_of% @kiR∧
  type_of% @adg∧
  type_of% @ac9∧
  type_of% @ZG∧
  type_of% @aaW∧
  type_of% @hoR∧
  type_of% @ifR∧
  type_of% @aaV∧
  type_of% @vR∧
  type_of% @ZF∧
  type_of% @gy∧
  type_of% @TA∧
  type_of% @Gt∧
  type_of% @Og∧
  type_of% @Gu∧
  type_of% @Xu∧
  type_of% @skR∧
  type_of% @atR∧
  type_of% @exS∧
  type_of% @adf:=
 ⟨@Nk,@U9,@kiR,@adg,@ac9,@ZG,@aaW,@hoR,@ifR,@aaV,@vR,@ZF,@gy,@TA,@Gt,@Og,@Gu,@Xu,@skR,@atR,@exS,@adf⟩
theorem aaX :
  type_of% @U9∧
  type_of% @kiR∧
  type_of% @oO∧
  type_of% @uI∧
  type_of% @Xo∧
  type_of% @ZG∧
  type_of% @ifR∧
  type_of% @abR∧
  type_of% @Bv∧
  type_of% @Kl∧
  type_of% @Rh∧
  type_of% @fzR∧
  type_of% @Da∧
  type_of% @cB∧
  type_of% @keepR∧
  type_of% @adb∧
  type_of% @ZF∧
  type_of% @gy∧
  type_of% @pkR∧
  type_of% @Wj∧
  type_of% @TA∧
  type_of% @Gs∧
  type_of% @Xm∧
  type_of% @Oh∧
  type_of% @wH∧
  type_of% @LB∧
  type_of% @LD∧
  type_of% @Xt∧
  type_of% @ldR∧
  type_of% @Xu∧
  type_of% @skR∧
  type_of% @ntR∧
  type_of% @atR∧
  type_of% @ada∧
  type_of% @puR∧
  type_of% @Xv∧
  type_of% @aaU:=
 ⟨@U9,@kiR,@oO,@uI,@Xo,@ZG,@ifR,@abR,@Bv,@Kl,@Rh,@fzR,@Da,@cB,@keepR,@adb,@ZF,@gy,@pkR,@Wj,@TA,@Gs,@Xm,@Oh,@wH,@LB,@LD,@Xt,@ldR,@Xu,@skR,@ntR,@atR,@ada,@puR,@Xv,@aaU⟩
theorem aaY :
  type_of% @decide_true∧
  type_of% @decide_false∧
  type_of% @not_true_eq_false∧
  type_of% @not_false_eq_true∧
  type_of% @false_and∧
  type_of% @and_false∧
  type_of% @cond_true.{1}∧
  type_of% @cond_false.{1}∧
  type_of% @List.take_zero.{0}∧
  type_of% @ne_eq.{1}∧
  type_of% @true_and∧
  type_of% @PV.bool.injEq∧
  type_of% @Int.toNat_natCast∧
  type_of% @Int.toNat_zero∧
  type_of% @Bool.not_false∧
  type_of% @Bool.not_true∧
  type_of% @Bool.and_self∧
  type_of% @Bool.false_eq_true∧
  type_of% @Bool.true_eq_false∧
  type_of% @forall_const.{1}∧
  type_of% @false_implies∧
  type_of% @true_implies∧
  type_of% @and_true∧
  type_of% @implies_true.{1}∧
  type_of% @implies_true.{0}∧
  type_of% @forall_const.{0}∧
  type_of% @Nat.zero_add∧
  type_of% @List.length_map.{0,0}∧
  type_of% @List.length_cons.{0}∧
  type_of% @List.length_nil.{0}∧
  type_of% @List.nil_append.{0}∧
  type_of% @List.map_cons.{0,0}∧
  type_of% @List.map_nil.{0,0}∧
  type_of% @Bool.true_or∧
  type_of% @List.getElem?_cons_zero.{0}∧
  type_of% @List.getElem?_cons_succ.{0}∧
  type_of% @Option.map_some.{0,0}∧
  type_of% @or_true∧
  type_of% @List.getElem?_map.{0,0}∧
  type_of% @List.length_replicate.{0}∧
  type_of% @List.all_cons.{0}∧
  type_of% @List.all_nil.{0}∧
  type_of% @Bool.and_true∧
  type_of% @Bool.true_and∧
  type_of% @Bool.false_or∧
  type_of% @Bool.or_false∧
  type_of% @Nat.le_refl∧
  type_of% @Nat.lt_add_one∧
  type_of% @List.length_append.{0}:=
 ⟨@decide_true,@decide_false,@not_true_eq_false,@not_false_eq_true,@false_and,@and_false,@cond_true.{1},@cond_false.{1},@List.take_zero.{0},@ne_eq.{1},@true_and,@PV.bool.injEq,@Int.toNat_natCast,@Int.toNat_zero,@Bool.not_false,@Bool.not_true,@Bool.and_self,@Bool.false_eq_true,@Bool.true_eq_false,@forall_const.{1},@false_implies,@true_implies,@and_true,@implies_true.{1},@implies_true.{0},@forall_const.{0},@Nat.zero_add,@List.length_map.{0,0},@List.length_cons.{0},@List.length_nil.{0},@List.nil_append.{0},@List.map_cons.{0,0},@List.map_nil.{0,0},@Bool.true_or,@List.getElem?_cons_zero.{0},@List.getElem?_cons_succ.{0},@Option.map_some.{0,0},@or_true,@List.getElem?_map.{0,0},@List.length_replicate.{0},@List.all_cons.{0},@List.all_nil.{0},@Bool.and_true,@Bool.true_and,@Bool.false_or,@Bool.or_false,@Nat.le_refl,@Nat.lt_add_one,@List.length_append.{0}⟩
theorem aaZ{D:TypeId→aD}{t:TypeId}{k k':IntKind}{n m:Int}{objs:List Obj}{K:KT}:d_ D t (.int k n) (.int k' m) objs K=
  Km (D t).kind λe=>(D e).kind≠.none∧(aL (D e)).cells.length=(D e).size∧(D e).size≠0∧(aL (D e)).cells.all PV.storable=true∧0≤n∧n≤m∧m≤9223372036854775807∧(D e).bytes*m≤281474976710656∧
   K (.aS objs.length 1) (newObj objs e (D e).size (List.replicate n.toNat (aL (D e)))) (5+2*objs.length):=by
 unfold d_ Km
 cases (D t).kind<;>rfl
theorem adi:type_of% @iQ.eq_1∧type_of% @iQ.eq_2∧type_of% @iQ.eq_3∧type_of% @iQ.eq_4∧type_of% @iQ.eq_5∧type_of% @iQ.eq_6∧type_of% @iQ.eq_7∧type_of% @iQ.eq_8∧type_of% @cK.eq_1∧type_of% @cK.eq_2∧type_of% @cK.eq_3∧type_of% @dU.eq_1:=⟨@iQ.eq_1,@iQ.eq_2,@iQ.eq_3,@iQ.eq_4,@iQ.eq_5,@iQ.eq_6,@iQ.eq_7,@iQ.eq_8,@cK.eq_1,@cK.eq_2,@cK.eq_3,@dU.eq_1⟩
theorem adj:type_of% @Nh.eq_1∧type_of% @Nh.eq_2∧type_of% @Nh.eq_3∧type_of% @kT.eq_1∧type_of% @kT.eq_2∧type_of% @kT.eq_3∧type_of% @fU.eq_1∧type_of% @fU.eq_2∧type_of% @iQ.eq_1∧type_of% @iQ.eq_2∧type_of% @iQ.eq_3∧type_of% @iQ.eq_4∧type_of% @iQ.eq_5∧type_of% @iQ.eq_6∧type_of% @iQ.eq_7∧type_of% @iQ.eq_8∧type_of% @cK.eq_1∧type_of% @cK.eq_2∧type_of% @cK.eq_3∧type_of% @dU.eq_1∧type_of% @K3.eq_1∧type_of% @rJ.eq_1∧type_of% @newObj.eq_1∧type_of% @aL.eq_1∧type_of% @bL.eq_1∧type_of% @dK.eq_1∧type_of% @iC.eq_1∧type_of% @iC.eq_2∧type_of% @jo.eq_1∧type_of% @jo.eq_2∧type_of% @St.freeze.eq_1∧type_of% @aaZ∧type_of% @gK.eq_1∧type_of% @gK.eq_2∧type_of% @kC.eq_1:=⟨@Nh.eq_1,@Nh.eq_2,@Nh.eq_3,@kT.eq_1,@kT.eq_2,@kT.eq_3,@fU.eq_1,@fU.eq_2,@iQ.eq_1,@iQ.eq_2,@iQ.eq_3,@iQ.eq_4,@iQ.eq_5,@iQ.eq_6,@iQ.eq_7,@iQ.eq_8,@cK.eq_1,@cK.eq_2,@cK.eq_3,@dU.eq_1,@K3.eq_1,@rJ.eq_1,@newObj.eq_1,@aL.eq_1,@bL.eq_1,@dK.eq_1,@iC.eq_1,@iC.eq_2,@jo.eq_1,@jo.eq_2,@St.freeze.eq_1,@aaZ,@gK.eq_1,@gK.eq_2,@kC.eq_1⟩
end Lp
namespace Lp
open Go
variable {P:Program}
def Xx:Option TypeDesc→PV→PV→Bool
 | some (.int k),.int k1 _,.int k2 _=>decide (k1=k2)
 | some .bool,.bool _,.bool _=>true
 | some .string,.str _,.str _=>true
 | _,_,_=>false
def LJ(P:Program):Nat→List Field→List PV→List PV→Bool
 | _,[],[],[]=>true
 | k,f::fs,p::aa,q::bs=>(f.name != "_") && f.offset==k && Xx (P.underlying f.type) p q && LJ P (k+1) fs aa bs
 | _,_,_,_=>false
theorem Om{w:World}{t:TypeId}{xs:Array Value}{o:Nat}{v:Value}{d:TypeDesc}(hu:P.underlying t=some d)(hd:(∃k,d=.int k)∨d=.bool∨d=.string)(hv:xs[o]?=some v):(part t xs o).run P w=.ok v w:=by
 rcases hd with ⟨k,rfl⟩ | rfl | rfl
 all_goals simp[part,isAgg,run_underlying hu,hv]
theorem abW{w:World}{d:Nat}{t:TypeId}{p q:PV}{v u:Value}{ok:Nat→Prop}(hf:Xx (P.underlying t) p q=true)(hv:cu w ok p v)(hu:cu w ok q u) :
  ∃b,eqS p q=some b∧(Op.equalIn (d+1) t v u).run P w=.ok b w∧∃e,P.underlying t=some e∧((∃k,e=.int k)∨e=.bool∨e=.string):=by
 unfold Xx at hf
 split at hf
 ·rename_i k k1 a k2 b hk
  have:k1=k2:=by simpa using hf
  subst this
  cases hv;cases hu
  exact⟨decide (a=b),by simp[eqS],by rw[run_equalIn_int w d t k1 k a b hk];rfl,_,hk,.inl ⟨_,rfl⟩⟩
 ·rename_i a b hk
  cases hv;cases hu
  exact⟨a==b,rfl,run_equalIn_bool' w d t a b hk,_,hk,.inr (.inl rfl)⟩
 ·rename_i a b hk
  cases hv;cases hu
  refine⟨decide (a=b),rfl,?_,_,hk,.inr (.inr rfl)⟩
  rw[run_equalIn_string w d t _ _ hk]
  congr 1
  simp only[ByteArray.toList_eq]
  by_cases h:a=b
  ·simp[h]
  ·simp[h]
 ·cases hf
theorem TD{w:World}{d:Nat}{ok:Nat→Prop}{xs ys:Array Value}:∀(fs:List Field) (k:Nat) (aa bs:List PV) (r:Bool),LJ P k fs aa bs=true→KZ aa bs=some r→
  (∀i p,aa[i]?=some p→∃v,xs[k+i]?=some v∧cu w ok p v)→(∀i p,bs[i]?=some p→∃v,ys[k+i]?=some v∧cu w ok p v)→
  (Op.eqFields (d+1) xs ys fs).run P w=.ok r w
 | [],k,aa,bs,r,hf,he,_,_=>by
  cases aa<;>cases bs<;>simp[LJ]at hf
  simp only[KZ,Option.some.injEq]at he
  subst he
  rfl
 | f::fs,k,aa,bs,r,hf,he,ha,hb=>by
  cases aa with
  | nil=>cases bs<;>simp[LJ]at hf
  | cons p aa=>
   cases bs with
   | nil=>simp[LJ]at hf
   | cons q bs=>
    simp only[LJ,Bool.and_eq_true,beq_iff_eq,bne_iff_ne]at hf
    obtain⟨⟨⟨hn,ho⟩,ht⟩,hr⟩:=hf
    obtain⟨v,hv,rv⟩:=ha 0 p rfl
    obtain⟨u,hu,ru⟩:=hb 0 q rfl
    obtain⟨b,hb1,hb2,e,he1,he2⟩:=abW (d:=d) ht rv ru
    simp only[KZ,hb1]at he
    cases hq:KZ aa bs with
    | none=>rw[hq]at he;simp at he
    | some r'=>
     rw[hq]at he
     simp only[Option.some.injEq]at he
     subst he
     have ih:=TD (w:=w) (d:=d) (ok:=ok) (xs:=xs) (ys:=ys) fs (k+1) aa bs r' hr hq (λi p h=>by have:=ha (i+1) p (by simpa using h);rwa[show k+(i+1)=k+1+i by omega]at this) (λi p h=>by have:=hb (i+1) p (by simpa using h);rwa[show k+(i+1)=k+1+i by omega]at this)
     have p1:=Om (w:=w) (xs:=xs) (o:=f.offset) he1 he2 (by rw[ho];simpa using hv)
     have p2:=Om (w:=w) (xs:=ys) (o:=f.offset) he1 he2 (by rw[ho];simpa using hu)
     simp only[Op.eqFields,ne_eq,hn,not_false_eq_true,if_true,Sem.run_bind,p1,Result.andThen_ok,p2,hb2]
     cases b
     ·simp
     ·simpa using ih
theorem TF{t:TypeId}{aa bs:List PV}(hg:P.eqGuardType P.depth t=false)(ht:P.underlying t=some (.struct (P.fieldsOf t)))(hp:P.stoodInHeld t=false)(hf:LJ P 0 (P.fieldsOf t).toList aa bs=true):Iu P t aa bs:=by
 refine⟨hg,λw ok vs us r hr h1 h2=>?_⟩
 have e:Op.equal t (.agg ⟨vs⟩) (.agg ⟨us⟩)=Op.equalIn (9999+1) t (.agg ⟨vs⟩) (.agg ⟨us⟩):=rfl
 rw[e,run_equalIn_struct w 9999 t _ _ ht hp]
 refine TD (d:=9998) (ok:=ok) _ 0 aa bs r hf hr ?_ ?_
 ·intro i p hi
  have hlt:=(List.getElem?_eq_some_iff.1 hi).1
  have hv:vs[i]?=some (vs[i]'(by rw[←h1.1];exact hlt)):=List.getElem?_eq_getElem _
  exact⟨_,by simpa using hv,h1.2 i p _ hi hv⟩
 ·intro i p hi
  have hlt:=(List.getElem?_eq_some_iff.1 hi).1
  have hv:us[i]?=some (us[i]'(by rw[←h2.1];exact hlt)):=List.getElem?_eq_getElem _
  exact⟨_,by simpa using hv,h2.2 i p _ hi hv⟩
end Lp
namespace Lp
open Go Go.Proofs
def jT(l:List (List UInt8)):PV:=.sl 1 (l.map .str) none
def bT(l:List Vl):PV:=.sl 1 (l.map aj) none
def encI(l:List Int):PV:=.sl 1 (l.map (.int .i64)) none
def yY(l:List (List Int)):PV:=.sl 1 (l.map encI) none
theorem hV:∀l,aj l=.sl 6 (l.map aM) none:=λ_=>rfl
theorem hT:∀l,jT l=.sl 1 (l.map .str) none:=λ_=>rfl
theorem hL:∀l,bT l=.sl 1 (l.map aj) none:=λ_=>rfl
theorem hI:∀l,encI l=.sl 1 (l.map (.int .i64)) none:=λ_=>rfl
theorem hG:∀l,yY l=.sl 1 (l.map encI) none:=λ_=>rfl
theorem wM:∀a b,aM a=aM b→a=b:=by
 intro a b h
 cases a;cases b
 simp only[aM,PV.agg.injEq,List.cons.injEq,PV.int.injEq,PV.str.injEq,PV.bool.injEq,true_and,and_true]at h
 obtain⟨rfl,rfl,rfl,rfl,rfl,rfl⟩:=h
 rfl
theorem mQ:∀a b,aj a=aj b→a=b:=q8 hV wM
theorem BF:∀a b,jT a=jT b→a=b:=q8 hT λ_ _ h=>by injection h
theorem wN:∀a b,encI a=encI b→a=b:=q8 hI λ_ _ h=>by injection h
theorem BG:∀a b,bT a=bT b→a=b:=q8 hL mQ
theorem BH:∀a b,yY a=yY b→a=b:=q8 hG wN
theorem aa0(objs:List Obj)(K:KT) :
  (∀n,aU D 46 (.addr (aM n)) 0 objs K=K (.addr (.int .i64 n.kind)) objs 0)∧
  (∀n,aU D 46 (.addr (aM n)) 1 objs K=K (.addr (.int .i64 n.many)) objs 0)∧
  (∀n,aU D 46 (.addr (aM n)) 2 objs K=K (.addr (.str n.name)) objs 0)∧
  (∀n,aU D 46 (.addr (aM n)) 3 objs K=K (.addr (.str n.s)) objs 0)∧
  (∀n,aU D 46 (.addr (aM n)) 4 objs K=K (.addr (.bool n.neg)) objs 0)∧
  (∀n,aU D 46 (.addr (aM n)) 5 objs K=K (.addr (.int .i64 n.e)) objs 0):=by
 refine⟨λn=>?_,λn=>?_,λn=>?_,λn=>?_,λn=>?_,λn=>?_⟩
 all_goals
  simp only[aM,aU,dU,dX,↓Og,Oh,wH,Da,LB,LD,ne_eq,reduceCtorEq,not_false_eq_true,true_and,Bool.not_false,Bool.and_self,Nat.reduceAdd,Nat.reduceLeDiff,forall_const]
theorem aa1 :
  (∀n,(aM n).cells=[.int .i64 n.kind,.int .i64 n.many,.str n.name,.str n.s,.bool n.neg,.int .i64 n.e])∧
  (∀n,(aM n).isAgg=true)∧(∀n,(aM n).pure=true)∧(∀d m O n,fA d m O (aM n)=aM n)∧(∀d m O n,jG d m O (aM n)=aM n):=
 ⟨λ_=>rfl,λ_=>rfl,λ_=>rfl,λ_ _ _ _=>rfl,λ_ _ _ _=>rfl⟩
theorem aa2(a b:Nd):Iu Tryz.prog 46 (aM a).cells (aM b).cells:=
 TF (by kernel_rfl) (by kernel_rfl) (by kernel_rfl) (by
  have h:(Tryz.prog.fieldsOf 46).toList.map (λf=>(f.name != "_",f.offset,Tryz.prog.underlying f.type))=[(true,0,some (.int .i64)),(true,1,some (.int .i64)),(true,2,some .string),(true,3,some .string),(true,4,some .bool),(true,5,some (.int .i64))]:=by kernel_rfl
  generalize (Tryz.prog.fieldsOf 46).toList=fs at h
  obtain _ | ⟨f0,_ | ⟨f1,_ | ⟨f2,_ | ⟨f3,_ | ⟨f4,_ | ⟨f5,_ | ⟨f6,fr⟩⟩⟩⟩⟩⟩⟩:=fs
  all_goals simp only[List.map_cons,List.map_nil,List.cons.injEq,Prod.mk.injEq,and_true,reduceCtorEq,and_false]at h
  obtain⟨⟨a0,b0,c0⟩,⟨a1,b1,c1⟩,⟨a2,b2,c2⟩,⟨a3,b3,c3⟩,⟨a4,b4,c4⟩,⟨a5,b5,c5⟩⟩:=h
  simp only[LJ,Xx,aM,PV.cells,a0,b0,c0,a1,b1,c1,a2,b2,c2,a3,b3,c3,a4,b4,c4,a5,b5,c5,Bool.and_true,BEq.rfl,decide_true,Nat.zero_add,Nat.reduceAdd])
theorem adk(a b:Nd):KZ (aM a).cells (aM b).cells=some (decide (a=b)):=by
 cases a;cases b
 simp only[aM,PV.cells,KZ,eqS,if_true,Bool.and_true,Nd.mk.injEq,Option.some.injEq]
 rw[Bool.eq_iff_iff]
 simp
theorem Xy(ti:aD)(K:PV→Prop) :
  (∀a b,oP Tryz.prog ti 46 .eql (aM a) (aM b) K=K (.bool (decide (a=b))))∧
  (∀a b,oP Tryz.prog ti 46 .neq (aM a) (aM b) K=K (.bool (!decide (a=b))))∧
  (∀a k m x y g e,oP Tryz.prog ti 46 .eql (aM a) (.agg [.int .i64 k,.int .i64 m,.str x,.str y,.bool g,.int .i64 e]) K=K (.bool (decide (a=⟨k,m,x,y,g,e⟩)))):=by
 have h:∀a b,oP Tryz.prog ti 46 .eql (aM a) (aM b) K=K (.bool (decide (a=b))):=λa b=>by
  show (Iu Tryz.prog 46 (aM a).cells (aM b).cells∧∃r,KZ (aM a).cells (aM b).cells=some r∧K (.bool r))=_
  rw[adk]
  simp[aa2]
 refine⟨h,λa b=>?_,λa k m x y g e=>h a ⟨k,m,x,y,g,e⟩⟩
 show (Iu Tryz.prog 46 (aM a).cells (aM b).cells∧∃r,KZ (aM a).cells (aM b).cells=some r∧K (.bool (!r)))=_
 rw[adk]
 simp[aa2]
theorem aa3(n:Nd) :
  (∀x,(aM n).putCells 0 [.int .i64 x]=aM { n with kind:=x })∧(∀x,(aM n).putCells 1 [.int .i64 x]=aM { n with many:=x })∧
  (∀x,(aM n).putCells 2 [.str x]=aM { n with name:=x })∧(∀x,(aM n).putCells 3 [.str x]=aM { n with s:=x })∧
  (∀x,(aM n).putCells 4 [.bool x]=aM { n with neg:=x })∧(∀x,(aM n).putCells 5 [.int .i64 x]=aM { n with e:=x }):=
 ⟨λ_=>rfl,λ_=>rfl,λ_=>rfl,λ_=>rfl,λ_=>rfl,λ_=>rfl⟩
theorem aa4(k m:Int)(x y:List UInt8)(g:Bool)(e:Int):PV.agg [.int .i64 k,.int .i64 m,.str x,.str y,.bool g,.int .i64 e]=aM ⟨k,m,x,y,g,e⟩:=rfl
theorem aa5(objs:List Obj)(K:KT) :
  (∀k,dh D 46 [(0,.int .i64 k)] objs K=K (aM ⟨k,0,[],[],false,0⟩) objs 0)∧
  (∀k m,dh D 46 [(0,.int .i64 k),(1,.int .i64 m)] objs K=K (aM ⟨k,m,[],[],false,0⟩) objs 0)∧
  (∀k s,dh D 46 [(0,.int .i64 k),(3,.str s)] objs K=K (aM ⟨k,0,[],s,false,0⟩) objs 0)∧
  (∀k s g e,dh D 46 [(0,.int .i64 k),(3,.str s),(4,.bool g),(5,.int .i64 e)] objs K=K (aM ⟨k,0,[],s,g,e⟩) objs 0):=by
 have z:aL (D 46)=aM ⟨0,0,[],[],false,0⟩:=by kernel_rfl
 have a:(D 46).agg=true:=by kernel_rfl
 simp only[dX]at z a
 refine⟨λk=>?_,λk m=>?_,λk s=>?_,λk s g e=>?_⟩
 all_goals
  simp[dh,nN,a,z,dX,oD,aM,PV.isAgg,uf,PV.cells,PV.storable,PV.mD,PV.pure]
theorem aa6 :
  (∀n0,PV.sl 6 [aM n0] none=aj [n0])∧
  (∀n0 n1,PV.sl 6 [aM n0,aM n1] none=aj [n0,n1])∧
  (∀n0 n1 n2,PV.sl 6 [aM n0,aM n1,aM n2] none=aj [n0,n1,n2])∧
  (∀s0,PV.sl 1 [PV.str s0] none=jT [s0])∧
  (∀s0 s1,PV.sl 1 [PV.str s0,PV.str s1] none=jT [s0,s1])∧
  (∀s0 s1 s2,PV.sl 1 [PV.str s0,PV.str s1,PV.str s2] none=jT [s0,s1,s2])∧
  (∀i0,PV.sl 1 [PV.int .i64 i0] none=encI [i0])∧
  (∀i0 i1,PV.sl 1 [PV.int .i64 i0,PV.int .i64 i1] none=encI [i0,i1])∧
  (∀i0 i1 i2,PV.sl 1 [PV.int .i64 i0,PV.int .i64 i1,PV.int .i64 i2] none=encI [i0,i1,i2])∧
  (∀v0,PV.sl 1 [aj v0] none=bT [v0])∧
  (∀v0 v1,PV.sl 1 [aj v0,aj v1] none=bT [v0,v1])∧
  (∀v0 v1 v2,PV.sl 1 [aj v0,aj v1,aj v2] none=bT [v0,v1,v2])∧
  (∀g0,PV.sl 1 [encI g0] none=yY [g0])∧
  (∀g0 g1,PV.sl 1 [encI g0,encI g1] none=yY [g0,g1])∧
  (∀g0 g1 g2,PV.sl 1 [encI g0,encI g1,encI g2] none=yY [g0,g1,g2]):=
 ⟨λ_=>rfl,λ_ _=>rfl,λ_ _ _=>rfl,λ_=>rfl,λ_ _=>rfl,λ_ _ _=>rfl,λ_=>rfl,λ_ _=>rfl,λ_ _ _=>rfl,λ_=>rfl,λ_ _=>rfl,λ_ _ _=>rfl,λ_=>rfl,λ_ _=>rfl,λ_ _ _=>rfl⟩
theorem inN:zG aM:=by intro d n o x;cases d<;>rfl
theorem inV:zG aj:=by intro d n o x;cases d<;>rfl
theorem inS:zG PV.str:=by intro d n o x;cases d<;>rfl
theorem inI:zG (PV.int .i64):=by intro d n o x;cases d<;>rfl
theorem inG:zG encI:=by intro d n o x;cases d<;>rfl
theorem adl :
  type_of% (l8 hV)∧
  type_of% (l8 hT)∧
  type_of% (l8 hL)∧
  type_of% (l8 hI)∧
  type_of% (l8 hG)∧
  type_of% (bq wM)∧
  type_of% (bq mQ)∧
  type_of% (bq BF)∧
  type_of% (bq BG)∧
  type_of% (bq wN)∧
  type_of% (bq BH):=
 ⟨l8 hV,l8 hT,l8 hL,l8 hI,l8 hG,bq wM,bq mQ,bq BF,bq BG,bq wN,bq BH⟩
theorem aa7 :
  type_of% (aa0)∧
  type_of% (aa1)∧
  type_of% (Xy)∧
  type_of% (aa3)∧
  type_of% (aa4)∧
  type_of% (aa5)∧
  type_of% (aa6)∧
  type_of% (yV hV)∧
  type_of% (yV hT)∧
  type_of% (yV hL)∧
  type_of% (yV hI)∧
  type_of% (yV hG)∧
  type_of% (l8 hV)∧
  type_of% (l8 hT)∧
  type_of% (l8 hL)∧
  type_of% (l8 hI)∧
  type_of% (l8 hG)∧
  type_of% (yX hV)∧
  type_of% (yX hT)∧
  type_of% (yX hL)∧
  type_of% (yX hI)∧
  type_of% (yX hG)∧
  type_of% (bq wM)∧
  type_of% (bq mQ)∧
  type_of% (bq BF)∧
  type_of% (bq BG)∧
  type_of% (bq wN)∧
  type_of% (bq BH)∧
  type_of% (iE hV inN)∧
  type_of% (iE hT inS)∧
  type_of% (iE hL inV)∧
  type_of% (iE hI inI)∧
  type_of% (iE hG inG)∧
  type_of% (wL (enc:=aM) (sz:=6) (λ_=>rfl) (λ_=>rfl))∧
  type_of% (wL (enc:=aj) (sz:=1) (λ_=>rfl) (λ_=>rfl))∧
  type_of% (wL (enc:=PV.str) (sz:=1) (λ_=>rfl) (λ_=>rfl))∧
  type_of% (wL (enc:=(PV.int .i64)) (sz:=1) (λ_=>rfl) (λ_=>rfl))∧
  type_of% (wL (enc:=encI) (sz:=1) (λ_=>rfl) (λ_=>rfl))∧
  type_of% (wL (enc:=PV.bool) (sz:=1) (λ_=>rfl) (λ_=>rfl))∧
  type_of% (λ(l:Vl) (k:Nat)=>Qu (aj l) rfl k)∧
  type_of% (λ(l:List (List UInt8)) (k:Nat)=>Qu (jT l) rfl k)∧
  type_of% (λ(l:List Vl) (k:Nat)=>Qu (bT l) rfl k)∧
  type_of% (λ(l:List Int) (k:Nat)=>Qu (encI l) rfl k)∧
  type_of% (λ(l:List (List Int)) (k:Nat)=>Qu (yY l) rfl k)∧
  type_of% (λ(z:Nat) (xs:List PV) (q:Option Bool) (k:Nat)=>Qu (.sl z xs q) rfl k):=
 ⟨aa0,aa1,Xy,aa3,aa4,aa5,aa6,yV hV,yV hT,yV hL,yV hI,yV hG,l8 hV,l8 hT,l8 hL,l8 hI,l8 hG,yX hV,yX hT,yX hL,yX hI,yX hG,bq wM,bq mQ,bq BF,bq BG,bq wN,bq BH,iE hV inN,iE hT inS,iE hL inV,iE hI inI,iE hG inG,wL (enc:=aM) (sz:=6) (λ_=>rfl) (λ_=>rfl),wL (enc:=aj) (sz:=1) (λ_=>rfl) (λ_=>rfl),wL (enc:=PV.str) (sz:=1) (λ_=>rfl) (λ_=>rfl),wL (enc:=(PV.int .i64)) (sz:=1) (λ_=>rfl) (λ_=>rfl),wL (enc:=encI) (sz:=1) (λ_=>rfl) (λ_=>rfl),wL (enc:=PV.bool) (sz:=1) (λ_=>rfl) (λ_=>rfl),λ(l:Vl) (k:Nat)=>Qu (aj l) rfl k,λ(l:List (List UInt8)) (k:Nat)=>Qu (jT l) rfl k,λ(l:List Vl) (k:Nat)=>Qu (bT l) rfl k,λ(l:List Int) (k:Nat)=>Qu (encI l) rfl k,λ(l:List (List Int)) (k:Nat)=>Qu (yY l) rfl k,λ(z:Nat) (xs:List PV) (q:Option Bool) (k:Nat)=>Qu (.sl z xs q) rfl k⟩
theorem aG:type_of% @adh∧type_of% @adl∧type_of% @adi:=⟨@adh,@adl,@adi⟩
theorem aH:type_of% @aaX∧type_of% @aaY∧type_of% @aa7∧type_of% dX∧type_of% @adj:=⟨@aaX,@aaY,@aa7,dX,@adj⟩
end Lp
namespace Lp
open Go Go.Proofs
end Lp
namespace Lp
open Go Go.Proofs
noncomputable def pz:LC:=(gen [16,17] [(451,none),(1987,none)] [18] Tryz.f63)
theorem pE:aW Tryz.prog 63 97 [.tmp 4,.tmp 5] pz:=bP Tryz.func63 rfl (by kernel_rfl)
theorem Ag:aW Tryz.prog 84 41 [.tmp 4] (gen [12] [(99,some (1,1))] [] Tryz.f84):=bP Tryz.func84 rfl (by kernel_rfl)
end Lp
namespace Lp
open Go Go.Proofs
theorem Rj:aW Tryz.prog 65 8 [.tmp 4] (gen [] [] [] Tryz.f65):=bP Tryz.func65 rfl (by kernel_rfl)
theorem mR:aW Tryz.prog 87 26 [.tmp 4] (gen [] [(12291,none)] [] Tryz.f87):=bP Tryz.func87 rfl (by kernel_rfl)
theorem IL:aW Tryz.prog 73 48 [.tmp 2] (gen [] [] [2] Tryz.f73):=bP Tryz.func73 rfl (by kernel_rfl)
theorem Oo:aW Tryz.prog 101 54 [.tmp 2] (gen [] [] [1] Tryz.f101):=bP Tryz.func101 rfl (by kernel_rfl)
theorem IQ:aW Tryz.prog 122 17 [.tmp 4] (gen [] [] [] Tryz.f122):=bP Tryz.func122 rfl (by kernel_rfl)
theorem EJ:aW Tryz.prog 123 6 [.tmp 2] (gen [] [] [] Tryz.f123):=bP Tryz.func123 rfl (by kernel_rfl)
theorem Oq:aW Tryz.prog 49 123 [.tmp 2] (gen [9] [(7177,some (1,1)),(7209,none)] [19] Tryz.f49):=bP Tryz.func49 rfl (by kernel_rfl)
theorem IU:aW Tryz.prog 75 6 [.tmp 2] (gen [] [] [] Tryz.f75):=bP Tryz.func75 rfl (by kernel_rfl)
theorem iU:aW Tryz.prog 74 9 [.tmp 4] (gen [] [] [] Tryz.f74):=bP Tryz.func74 rfl (by kernel_rfl)
theorem jI:aW Tryz.prog 102 19 [.tmp 4] (gen [] [(387,none)] [] Tryz.f102):=bP Tryz.func102 rfl (by kernel_rfl)
theorem Rk:aW Tryz.prog 53 10 [.tmp 2] (gen [6] [] [] Tryz.f53):=bP Tryz.func53 rfl (by kernel_rfl)
theorem l9:aW Tryz.prog 81 36 [.tmp 2] (gen [] [(3593,none),(234881088,none)] [] Tryz.f81):=bP Tryz.func81 rfl (by kernel_rfl)
theorem Rl:aW Tryz.prog 78 35 [.tmp 4] (gen [12] [(57377,none)] [] Tryz.f78):=bP Tryz.func78 rfl (by kernel_rfl)
theorem Ot:aW Tryz.prog 56 21 [.cell 4 23,.cell 5 4] (gen [] [(0,none)] [] Tryz.f56):=bP Tryz.func56 rfl (by kernel_rfl)
end Lp
namespace Lp
open Go Go.Proofs
end Lp
namespace Lp
open Go Go.Proofs
theorem jU:aW Tryz.prog 77 54 [.tmp 4,.tmp 5] (gen [] [(451,none)] [] Tryz.f77):=bP Tryz.func77 rfl (by kernel_rfl)
theorem uJ:aW Tryz.prog 104 6 [.tmp 2] (gen [] [] [] Tryz.f104):=bP Tryz.func104 rfl (by kernel_rfl)
theorem Ah:aW Tryz.prog 103 17 [.tmp 4] (gen [] [] [] Tryz.f103):=bP Tryz.func103 rfl (by kernel_rfl)
theorem Ai:aW Tryz.prog 58 27 [.tmp 4,.tmp 5] (gen [] [(195,none)] [] Tryz.f58):=bP Tryz.func58 rfl (by kernel_rfl)
theorem wO:aW Tryz.prog 59 45 [.tmp 4] (gen [14,15] [(994,none)] [] Tryz.f59):=bP Tryz.func59 rfl (by kernel_rfl)
theorem BI:aW Tryz.prog 39 32 [.tmp 6] (gen [] [] [] Tryz.f39):=bP Tryz.func39 rfl (by kernel_rfl)
theorem IV:aW Tryz.prog 57 27 [.tmp 4] (gen [] [(0,none)] [] Tryz.f57):=bP Tryz.func57 rfl (by kernel_rfl)
theorem Rm:aW Tryz.prog 51 36 [.tmp 6] (gen [28,33] [] [] Tryz.f51):=bP Tryz.func51 rfl (by kernel_rfl)
end Lp
namespace Lp
open Go Go.Proofs
end Lp
namespace Lp
open Go Go.Proofs
end Lp
namespace Lp
open Go Go.Proofs
end Lp
namespace Lp
open Go Go.Proofs
end Lp
namespace Lp
open Go Go.Proofs
end Lp
namespace Lp
open Go Go.Proofs
end Lp
namespace Lp
open Go Go.Proofs
end Lp
namespace Lp
open Go Go.Proofs
theorem kP:aW Tryz.prog 95 4 [.tmp 2] (gen [] [] [] Tryz.f95):=bP Tryz.func95 rfl (by kernel_rfl)
theorem jV:aW Tryz.prog 120 19 [] (gen [] [(11,none)] [] Tryz.f120):=bP Tryz.func120 rfl (by kernel_rfl)
theorem IW:aW Tryz.prog 119 80 [.tmp 4] (gen [] [(0,some (1,3)),(0,none)] [3] Tryz.f119):=bP Tryz.func119 rfl (by kernel_rfl)
theorem EK:aW Tryz.prog 94 83 [.tmp 4] (gen [45,81] [(4067,none)] [6] Tryz.f94):=bP Tryz.func94 rfl (by kernel_rfl)
theorem BJ:aW Tryz.prog 118 25 [] (gen [] [(31,none)] [] Tryz.f118):=bP Tryz.func118 rfl (by kernel_rfl)
theorem oW:aW Tryz.prog 96 9 [.tmp 4] (gen [] [] [] Tryz.f96):=bP Tryz.func96 rfl (by kernel_rfl)
theorem qM:aW Tryz.prog 121 19 [.tmp 4] (gen [] [(387,none)] [] Tryz.f121):=bP Tryz.func121 rfl (by kernel_rfl)
theorem Ou:aW Tryz.prog 93 10 [.tmp 4] (gen [] [] [1] Tryz.f93):=bP Tryz.func93 rfl (by kernel_rfl)
theorem fV:aW Tryz.prog 116 8 [.tmp 2] (gen [5] [] [] Tryz.f116):=bP Tryz.func116 rfl (by kernel_rfl)
theorem IX:aW Tryz.prog 45 50 [.tmp 8] (gen [36,44,49] [] [] Tryz.f45):=bP Tryz.func45 rfl (by kernel_rfl)
theorem LK:aW Tryz.prog 67 75 [.cell 8 4] (gen [39,66,72] [(0,none),(30786325580688,none)] [3,11005,7013] Tryz.f67):=bP Tryz.func67 rfl (by kernel_rfl)
theorem LM:aW Tryz.prog 25 6 [.tmp 4] (gen [] [] [] Tryz.f25):=bP Tryz.func25 rfl (by kernel_rfl)
theorem Gw:aW Tryz.prog 44 8 [] (gen [7] [] [] Tryz.f44):=bP Tryz.func44 rfl (by kernel_rfl)
theorem qy:aW Tryz.prog 24 5 [.tmp 2] (gen [] [] [] Tryz.f24):=bP Tryz.func24 rfl (by kernel_rfl)
theorem jJ:aW Tryz.prog 43 13 [.tmp 4] (gen [] [(0,some (0,2))] [0] Tryz.f43):=bP Tryz.func43 rfl (by kernel_rfl)
theorem Ov:aW Tryz.prog 11 9 [.tmp 4] (gen [] [] [] Tryz.f11):=bP Tryz.func11 rfl (by kernel_rfl)
theorem IY:aW Tryz.prog 88 26 [.tmp 2] (gen [] [(14360,none)] [] Tryz.f88):=bP Tryz.func88 rfl (by kernel_rfl)
theorem Gx:aW Tryz.prog 66 76 [.tmp 8] (gen [25,28,30,31,57,64,72] [(15032387081,none)] [6] Tryz.f66):=bP Tryz.func66 rfl (by kernel_rfl)
theorem dO:aW Tryz.prog 90 16 [] (gen [] [(129,none)] [] Tryz.f90):=bP Tryz.func90 rfl (by kernel_rfl)
theorem gY:aW Tryz.prog 92 4 [.tmp 2] (gen [] [] [] Tryz.f92):=bP Tryz.func92 rfl (by kernel_rfl)
end Lp
namespace Lp
open Go Go.Proofs
structure Ed where
 kind:Int
 p:List Stp
 v:Vl
 deriving DecidableEq
def encS(s:Stp):PV:=.agg [.bool s.part,.str s.name,.int .i64 s.n]
def aT(l:List Stp):PV:=.sl 3 (l.map encS) none
def kQ(e:Ed):PV:=.agg [.int .i64 e.kind,aT e.p,aj e.v]
def lV(l:List Ed):PV:=.sl 3 (l.map kQ) none
theorem hPa:∀l,aT l=.sl 3 (l.map encS) none:=λ_=>rfl
theorem Xz:∀l,lV l=.sl 3 (l.map kQ) none:=λ_=>rfl
theorem sK:∀a b,encS a=encS b→a=b:=by
 intro a b h
 cases a;cases b
 simp only[encS,PV.agg.injEq,List.cons.injEq,PV.int.injEq,PV.str.injEq,PV.bool.injEq,true_and,and_true]at h
 obtain⟨rfl,rfl,rfl⟩:=h
 rfl
theorem lW:∀a b,aT a=aT b→a=b:=q8 hPa sK
theorem wP:∀a b,kQ a=kQ b→a=b:=by
 intro a b h
 obtain⟨k,p,v⟩:=a
 obtain⟨k',p',v'⟩:=b
 simp only[kQ,PV.agg.injEq,List.cons.injEq,PV.int.injEq,true_and,and_true]at h
 obtain⟨rfl,h1,h2⟩:=h
 rw[lW _ _ h1,mQ _ _ h2]
theorem x_:∀a b,lV a=lV b→a=b:=q8 Xz wP
theorem adm(objs:List Obj)(K:KT) :
  (∀s,aU D 43 (.addr (encS s)) 0 objs K=K (.addr (.bool s.part)) objs 0)∧
  (∀s,aU D 43 (.addr (encS s)) 1 objs K=K (.addr (.str s.name)) objs 0)∧
  (∀s,aU D 43 (.addr (encS s)) 2 objs K=K (.addr (.int .i64 s.n)) objs 0)∧
  (∀s,aU D 38 (.addr (kQ s)) 0 objs K=K (.addr (.int .i64 s.kind)) objs 0)∧
  (∀s,aU D 38 (.addr (kQ s)) 1 objs K=K (.addr (aT s.p)) objs 0)∧
  (∀s,aU D 38 (.addr (kQ s)) 2 objs K=K (.addr (aj s.v)) objs 0):=by
 refine⟨λn=>?_,λn=>?_,λn=>?_,λn=>?_,λn=>?_,λn=>?_⟩
 all_goals
  simp only[kQ,encS,aT,aj,aU,dU,dX,↓Og,Oh,wH,Da,LB,LD,ne_eq,reduceCtorEq,not_false_eq_true,true_and,Bool.not_false,Bool.and_self,Nat.reduceAdd,Nat.reduceLeDiff,forall_const,false_implies]
theorem adn :
  (∀s,(encS s).cells=[.bool s.part,.str s.name,.int .i64 s.n])∧
  (∀n,(encS n).isAgg=true)∧(∀n,(encS n).pure=true)∧(∀d m O n,fA d m O (encS n)=encS n)∧(∀d m O n,jG d m O (encS n)=encS n)∧
  (∀s,(kQ s).cells=[.int .i64 s.kind,aT s.p,aj s.v])∧
  (∀n,(kQ n).isAgg=true)∧(∀n,(kQ n).pure=true)∧(∀d m O n,fA d m O (kQ n)=kQ n)∧(∀d m O n,jG d m O (kQ n)=kQ n):=
 ⟨λ_=>rfl,λ_=>rfl,λ_=>rfl,λ_ _ _ _=>rfl,λ_ _ _ _=>rfl,λ_=>rfl,λ_=>rfl,λ_=>rfl,λ_ _ _ _=>rfl,λ_ _ _ _=>rfl⟩
theorem ado:zG encS:=by intro d n o x;cases d<;>rfl
theorem inE:zG kQ:=by intro d n o x;cases d<;>rfl
theorem aa8 :
  (∀a0,PV.sl 3 [encS a0] none=aT [a0])∧(∀a0,PV.sl 3 [kQ a0] none=lV [a0]):=
 ⟨λ_=>rfl,λ_=>rfl⟩
theorem adp:type_of% (l8 hPa)∧type_of% (l8 Xz)∧type_of% (bq sK)∧type_of% (bq lW)∧type_of% (bq wP)∧type_of% (bq x_):=
 ⟨l8 hPa,l8 Xz,bq sK,bq lW,bq wP,bq x_⟩
theorem aa9 :
  type_of% (adm)∧type_of% (adn)∧type_of% (aa8)∧
  type_of% (yV hPa)∧type_of% (yV Xz)∧type_of% (l8 hPa)∧type_of% (l8 Xz)∧type_of% (yX hPa)∧type_of% (yX Xz)∧
  type_of% (bq sK)∧type_of% (bq lW)∧type_of% (bq wP)∧type_of% (bq x_)∧
  type_of% (iE hPa ado)∧type_of% (iE Xz inE)∧
  type_of% (wL (enc:=encS) (sz:=3) (λ_=>rfl) (λ_=>rfl))∧type_of% (wL (enc:=kQ) (sz:=3) (λ_=>rfl) (λ_=>rfl))∧
  type_of% (λ(l:List Stp) (k:Nat)=>Qu (aT l) rfl k)∧type_of% (λ(l:List Ed) (k:Nat)=>Qu (lV l) rfl k):=
 ⟨adm,adn,aa8,yV hPa,yV Xz,l8 hPa,l8 Xz,yX hPa,yX Xz,bq sK,bq lW,bq wP,bq x_,iE hPa ado,iE Xz inE,
  wL (enc:=encS) (sz:=3) (λ_=>rfl) (λ_=>rfl),wL (enc:=kQ) (sz:=3) (λ_=>rfl) (λ_=>rfl),λ(l:List Stp) (k:Nat)=>Qu (aT l) rfl k,λ(l:List Ed) (k:Nat)=>Qu (lV l) rfl k⟩
theorem aA:type_of% @aG∧type_of% @adp:=⟨@aG,@adp⟩
theorem aB:type_of% @aH∧type_of% @aa9:=⟨@aH,@aa9⟩
end Lp
namespace Lp
open Go Go.Proofs
theorem Ow(v:Vl)(i c:Nat)(hv:v.length≤4611686018427387904)(h:skip (v.drop i) 1=some c):av Tryz.prog 108 [aj v,.int .i64 i] [] (.int .i64 (i+c:Nat)) []:=by
 refine LG.pure (T:=bA Tryz.prog []) 0 hD (ay au) bE (by decide) ?_
 (conv=>arg 4;cbv);simp only[↓Nk,U9,↓Qs,↓Ki,↓Qt,Kj,↓yS,↓vR,Bv,kT,fU,Rh,Nat.reduceAdd,Nat.reduceSub,Da,dX,Wj,TA,Gs]
 refine aQ (λm S=>∃(j k c':Nat),m=c'∧skip (v.drop j) k=some c'∧j+c'=i+c∧S=⟨mkT 19 [(0,aj v),(1,.int .i64 j),(5,.int .i64 k)],[]⟩) c ⟨i,1,c,rfl,h,rfl,?_⟩ ?_
 ·simp only[fgR,aj,Da];rfl
 rintro m S ⟨j,k,c',rfl,hs,hj,rfl⟩
 simp only[↓Nk,U9,↓Qs,↓Ki,↓Qt,Kj,↓yS,↓vR,Bv,kT,fU,Rh,Nat.reduceAdd,Nat.reduceSub,Da,fgR,dX,aj,aM,Wj,TA,Gs,bH,eD,aU,dU,↓Gt,↓Og,Oh,wH,LB,LD,Bool.not_false,Bool.and_self,Nat.reduceLeDiff,forall_const,ne_eq,reduceCtorEq,not_false_eq_true,true_and,PV.bool.injEq,Int.toNat_natCast,Nat.zero_add,decide_eq_true_eq,List.length_cons,List.length_nil]
 refine⟨λhk=>?_,λhk=>?_⟩
 ·obtain⟨k,rfl⟩:∃k',k=k'+1:=⟨k-1,by omega⟩
  have hjl:j<v.length:=by
   rcases Nat.lt_or_ge j v.length with h' | h'
   ·exact h'
   ·rw[List.drop_eq_nil_of_le h']at hs;simp[skip]at hs
  rw[List.drop_eq_getElem_cons hjl]at hs
  obtain⟨hm,c'',rfl,hs'⟩:=dJ hs
  have hle:=gH _ _ _ hs'
  simp only[List.length_drop]at hle
  have hk2:((k+1:Nat):Int)+(v[j].many-1)=((k+v[j].many.toNat:Nat):Int):=by omega
  exact⟨by omega,v[j],List.getElem?_eq_getElem hjl,by omega,by omega,by omega,c'',by omega,j+1,k+v[j].many.toNat,c'',rfl,hs',by omega,by rw[hk2];rfl⟩
 ·rw[if_pos trivial]
  have hk0:k=0:=by have:=of_decide_eq_false hk;omega
  subst hk0
  have:m=0:=by cases hd:v.drop j<;>rw[hd]at hs<;>simp[skip]at hs<;>exact hs.symm
  subst this
  congr 1;omega
def qN(v:Vl):Obj:=⟨46,6,v.map aM,true,0⟩
theorem wQ(v:Vl):bC [qN v]:=by
 intro o ho x hx p hp
 simp only[List.mem_singleton]at ho
 subst ho
 simp only[qN,List.mem_map]at hx
 obtain⟨n,_,rfl⟩:=hx
 simp only[aM,PV.cells,List.mem_cons,List.not_mem_nil,or_false]at hp
 rcases hp with rfl | rfl | rfl | rfl | rfl | rfl<;>rfl
theorem Rn(n:Nd):(aM n).cells.length=6∧(aM n).cells.all PV.storable=true:=⟨rfl,rfl⟩
theorem XA(d n:Nat)(objs:List Obj)(v:Vl):(v.map aM).map (PV.bJ (fA d n objs))=v.map aM:=by
 rw[List.map_map]
 exact List.map_congr_left λx _=>rfl
theorem Vd:av Tryz.prog 109 [.sl 6 [] (some true)] [] (.aS 0 0) [qN []]:=by
 refine gM.made (T:=bA Tryz.prog []) 0 hD (ay au) bE ?_
 (conv=>arg 4;cbv);simp only[↓Nk,U9,↓Qs,↓Ki,↓Qt,Kj,↓yS,↓vR,Kl,Rh,Nat.reduceAdd,Nat.reduceSub,Da,fgR,dX,Wj,TA,Gs,gy,forall_const,reduceCtorEq,false_imp_iff,and_true,TK.slice.injEq,exists_eq',true_and]
 exact⟨_,0,0,_,Weak.J5 2 46 6 rfl,rfl,rfl,rfl,rfl,rfl,wQ []⟩
theorem Ro(v:Vl)(hv:v.length≤1099511627776):av Tryz.prog 109 [.sl 6 (v.map aM) (some false)] [] (.aS 0 0) [qN v]:=by
 refine gM.made (T:=bA Tryz.prog []) 0 hD (ay au) bE ?_
 (conv=>arg 4;cbv);simp only[↓Nk,U9,↓Qs,↓Ki,↓Qt,Kj,↓yS,↓vR,Kl,Rh,Nat.reduceAdd,Nat.reduceSub,Da,fgR,dX,Wj,TA,Gs,gy,forall_const,reduceCtorEq,false_imp_iff,and_true,TK.slice.injEq,exists_eq',true_and]
 simp only[bL,dK,ng,newObj,iC,dX,ne_eq,reduceCtorEq,not_false_eq_true,true_and,if_true,List.all_nil,Nat.zero_mul,Nat.zero_le,List.nil_append,List.length_nil,List.getElem?_cons_zero,Option.some.injEq]
 refine⟨rfl,rfl,rfl,rfl,?_,_,rfl,rfl,rfl,rfl,rfl,?_,?_,λ_ _ h=>h.elim,_,0,2,_,Weak.refl _ _,rfl,rfl,rfl,rfl,?_,wQ v⟩
 ·intro y hy
  obtain⟨n,_,rfl⟩:=List.mem_map.1 hy
  exact Rn n
 ·simp;omega
 ·simp;omega
 ·simp only[eO,qN,List.replicate_zero,List.nil_append,XA]
theorem Rp(v:Vl)(hv:v.length≤1099511627776):av Tryz.prog 109 [aj v] [] (.aS 0 0) [qN v]:=
 av.split (pre:=[]) (post:=[]) (λh=>by
  have:v=[]:=by simpa using h
  subst this
  exact Vd) (Ro v hv)
end Lp
namespace Lp
open Go Go.Proofs
open List (length_cons length_nil)
def rowOf(p:Vl):List PV:=[.str (nameOf p),aj (gI p)]
def Dg:d9:=λargs objs K=>∃(v:Vl) (i c:Nat),args=[aj v,.int .i64 i]∧v.length≤4611686018427387904∧skip (v.drop i) 1=some c∧K (.int .i64 (i+c:Nat)) objs 0
def Gy:d9:=λargs objs K=>∃v:Vl,args=[aj v]∧v.length≤1099511627776∧K (.aS objs.length 0) (objs++[qN v]) 2
theorem LP:aR Tryz.prog 108 Dg:=by
 rintro args objs K ⟨v,i,c,rfl,hv,hs,hk⟩
 exact⟨_,_,_,.pure _ rfl (Ow v i c hv hs),hk⟩
theorem Ox:aR Tryz.prog 109 Gy:=by
 rintro args objs K ⟨v,rfl,hv,hk⟩
 have h:=mI.made (objs:=objs) _ _ rfl (wQ v) (Rp v hv)
 exact⟨_,_,_,h,by simpa[PV.shift,PV.jN] using hk⟩
theorem Kn(v:Vl):av Tryz.prog 80 [aj v] [] (.fn 107 [] [.addr (aj v)]) []:=by
 refine Ri.pure (T:=bA Tryz.prog []) 1 hD (ay au) bE (by decide) ?_
 (conv=>arg 4;cbv);simp only[↓Nk,U9,↓Qs,↓Ki,↓Qt,Kj,↓yS,↓vR,Bv,kT,fU,Nat.reduceAdd,Nat.reduceSub,Da,dX,K3,kC,newObj,aj,LB,LD,ne_eq,reduceCtorEq,not_false_eq_true,true_and,length_cons,length_nil,List.nil_append]
 exact⟨rfl,rfl,rfl⟩
theorem wR(v:Vl)(n:Nd)(r:Vl)(ps:List Vl)(hv:v=n::r)(hl:v.length≤1099511627776)(hm:0≤n.many)(hp:parts n.many.toNat r=some ps) :
  Gives Tryz.prog 107 [.addr (aj v)] (ps.map rowOf):=by
 refine LF.gives (fnT:=lu [(108,Dg),(109,Gy)]) hD (af LP (af Ox au)) bE ?_
 intro I J objs y hI je jB
 subst hv
 (conv=>arg 4;cbv);simp only[↓Nk,kiR,↓Qs,↓Ki,↓Qt,Kj,↓yS,↓vR,Nat.reduceAdd,Nat.reduceSub,Da,dX,Wj,TA,Gs,bH,eD,aU,dU,↓Gt,↓Og,Oh,wH,LB,LD,aj,aM,List.map_cons,Int.reduceToNat,Int.toNat_zero,Int.reduceLE,Bool.not_false,Bool.and_self,Nat.reduceLeDiff,forall_const,ne_eq,reduceCtorEq,not_false_eq_true,true_and,PV.bool.injEq,Int.toNat_natCast,Nat.zero_add,length_cons,length_nil]
 refine aQ (λm S=>∃(k i:Nat) (O:List Obj) (rest:List Vl),k+rest.length=ps.length∧m=rest.length∧parts rest.length ((n::r).drop i)=some rest∧ps.drop k=rest∧I k O∧
  S=⟨mkT 34 [(0,.qI y),(1,.addr (aj (n::r))),(3,.int .i64 i),(9,.int .i64 n.many),(10,.int .i64 k)],O⟩) ps.length ?_ ?_
 ·have hpl:=dW _ _ _ hp
  refine⟨0,1,objs,ps,by omega,rfl,by rw[hpl];simpa using hp,by simp,hI,?_⟩
  simp only[fgR,aj,Da];rfl
 have hpl:=dW _ _ _ hp
 have ZI:n.many.toNat≤1099511627776:=by have:=iY _ _ _ hp;simp at hl;omega
 generalize hv:n::r=v at *
 rintro m S ⟨k,i,O,rest,hk,rfl,hps,hd,hIk,rfl⟩
 simp only[↓Nk,kiR,↓Qs,↓Ki,↓Qt,Kj,↓yS,↓vR,Nat.reduceAdd,Nat.reduceSub,Da,dX,Wj,TA,Gs,caR,taR,Dg,Gy,Nat.reduceBEq,BEq.rfl,cond_true,cond_false,iB,cK,bH,eD,aU,dU,↓Gt,↓Og,Oh,wH,LB,LD,aj,List.map_cons,Int.reduceToNat,Int.toNat_zero,Int.reduceLE,Bool.not_false,Bool.and_self,Nat.reduceLeDiff,forall_const,ne_eq,reduceCtorEq,not_false_eq_true,true_and,PV.bool.injEq,Int.toNat_natCast,Nat.zero_add,length_cons,length_nil]
 refine⟨λhkm=>?_,λhkm=>?_⟩
 ·have aeR:(k:Int)<n.many:=of_decide_eq_true hkm
  obtain⟨q,hq⟩:∃q,rest.length=q+1:=⟨rest.length-1,by omega⟩
  rw[hq]at hps
  obtain⟨c,qs,hsk,hr',hqs⟩:=gV hps
  have hc:=gH _ _ _ hsk
  simp only[List.length_drop]at hc
  have hlv:v.length≤1099511627776:=hl
  refine⟨v,i,c,rfl,by omega,hsk,.inr trivial,by omega,by omega,by simp;omega,(v.drop i).take c,?_,by simp;omega,qN ((v.drop i).take c),by simp,rfl,rfl,by simp[qN];omega,rfl,qN ((v.drop i).take c),by simp,rfl,rfl,?_⟩
  ·rw[←List.map_take,←List.map_drop,←List.take_drop]
  ·obtain⟨hdn,tl,hpe⟩:∃a b,(v.drop i).take c=a::b:=by
     cases hx:(v.drop i).take c with
     | nil=>have:=congrArg List.length hx;simp at this;omega
     | cons a b=>exact⟨a,b,rfl⟩
   rw[hpe]at hr' ⊢
   refine⟨qN (hdn::tl),aM hdn,by simp,rfl,rfl,rfl,by simp,rfl,by simp[aM,PV.cells],(λh=>by cases h),rfl,?_⟩
   have hset:(O++[qN (hdn::tl)]).set O.length { qN (hdn::tl) with xs:=(qN (hdn::tl)).xs.set 0 ((aM hdn).putCells 2 (PV.str []).cells) }=O++[qN (gI (hdn::tl))]:=by
    rw[List.set_append_right _ _ (Nat.le_refl _),Nat.sub_self]
    rfl
   rw[hset]
   refine bg _ (Weak.freeze 1 O.length (je k O hIk).1 _) ?_
   have hgo:(O++[qN (gI (hdn::tl))])[O.length]?=some (qN (gI (hdn::tl))):=by simp
   have hfr:fA 1 O.length (O++[qN (gI (hdn::tl))]) (.aS O.length 0)=aj (gI (hdn::tl)):=by
    simp only[fA,Nat.lt_irrefl,if_false,kD,hgo]
    simp only[qN,Nat.le_refl,decide_true,Bool.and_self,BEq.rfl,if_true,aj,List.map_map]
    congr 1
   have hro:(O++[qN (gI (hdn::tl))]).take O.length=O:=by simp
   have hpost:∃w,w=gI (hdn::tl):=⟨_,rfl⟩
   obtain⟨pc,hpc⟩:=hpost
   rw[←hpc]at hfr hro hgo ⊢
   have hq1:(fA 1 O.length (O++[qN pc]) (.bf O.length 0 0 0)).pure=true:=zF (Nat.le_refl _)
   have hq2:(fA 1 O.length (O++[qN pc]) (.bf O.length 0 0 2)).pure=true:=zF (Nat.le_refl _)
   have hq3:(aj pc).pure=true:=rfl
   simp only[St.freeze,Da,fzR,Rh,hfr,hro,hq1,hq2,hq3,puR,Nh,Bool.not_true,aM,Zg (je k O hIk).2,↓Nk,kiR,↓Qs,↓Ki,↓Qt,Kj,↓yS,↓vR,Nat.reduceAdd,Nat.reduceSub,dX,Wj,TA,Gs,caR,Iq,bH,eD,aU,dU,↓Gt,↓Og,Oh,wH,LB,LD,Int.reduceToNat,Int.toNat_zero,Int.reduceLE,Bool.not_false,Bool.and_self,Nat.reduceLeDiff,forall_const,ne_eq,reduceCtorEq,not_false_eq_true,true_and,PV.bool.injEq,Int.toNat_natCast,Nat.zero_add,length_cons,length_nil]
   have hvi:v[i]?=some hdn:=by
    have:=congrArg (λl=>l[0]?) hpe
    simp only[List.getElem?_cons_zero,List.getElem?_take,List.getElem?_drop,Nat.add_zero]at this
    rw[if_pos (by omega)]at this
    exact this
   have hpk:ps[k]?=some (hdn::tl):=by
    have:=congrArg (λl=>l[0]?) (hd.trans hr')
    simpa using this
   have hdq:ps.drop (k+1)=qs:=by
    have:=congrArg List.tail (hd.trans hr')
    simpa[List.tail_drop] using this
   have hlq:qs.length=q:=by rw[hr']at hq;simpa using hq
   refine⟨by omega,hdn,hvi,k,hIk,?_,λai hI'=>⟨λh=>h.elim,⟨by omega,by omega⟩,qs.length,by omega,k+1,i+c,ai,qs,by omega,rfl,?_,hdq,hI',?_⟩,λai hJ'=>?_⟩
   ·rw[List.getElem?_map,hpk,hpc];rfl
   ·rw[hlq];rw[List.drop_drop]at hqs;exact hqs
   ·simp only[fgR,aj,Da];rfl
   ·exact⟨⟨.inr rfl,.inr ⟨k,by rw[List.length_map];omega,hJ'⟩⟩,λh=>h.elim⟩
 ·rw[if_pos trivial]
  have hge:¬ (k:Int)<n.many:=of_decide_eq_false hkm
  refine⟨.inl rfl,?_⟩
  have:k=ps.length:=by omega
  rw[List.length_map,←this]
  exact .inl hIk
end Lp
namespace Lp
open Go Go.Proofs
open List (length_cons length_nil mem_singleton nil_append)
def BK:d9:=λargs objs K=>∃v:Vl,args=[aj v]∧K (.fn 107 [] [.addr (aj v)]) objs 0
theorem Gz:aR Tryz.prog 80 BK:=by
 rintro args objs K ⟨v,rfl,hk⟩
 exact⟨_,_,_,.pure _ rfl (Kn v),hk⟩
def Ve(done:List Vl)(O:List Obj):Prop:=
 (done=[]∧O=[⟨64,1,[.sl 0 [] (some true)],true,1⟩])∨
 (done≠[]∧∃ver,O=[⟨64,1,[.aS 1 ver],true,1⟩,⟨23,1,done.map λp=>aj (gI p),true,ver⟩])
theorem Eh(v:Vl)(n:Nd)(r:Vl)(ps:List Vl)(hv:v=n::r)(hl:v.length≤1099511627776)(hm:0≤n.many)(hp:parts n.many.toNat r=some ps) :
  av Tryz.prog 52 [aj v] [] (if ps=[] then .sl 0 [] (some true) else .sl 1 (ps.map λp=>aj (gI p)) none) []:=by
 refine Eg.pure (T:=bA Tryz.prog [(80,BK)]) 2 hD (ay (af Gz au)) bE (by decide) ?_
 (conv=>arg 4;cbv);simp only[↓Nk,U9,↓Qs,↓Ki,↓Qt,Kj,↓yS,↓vR,Nat.reduceAdd,Nat.reduceSub,Da,dX,caR,taR,BK,Nat.reduceBEq,BEq.rfl,cond_true,cond_false,rJ,newObj,aL,LB,LD,ne_eq,reduceCtorEq,not_false_eq_true,true_and,length_cons,length_nil,nil_append]
 refine⟨rfl,v,rfl,?_⟩
 refine z_ 107 [.addr (aj v)] (ps.map rowOf) (λi O=>Ve (ps.take i) O∧i≤ps.length) rfl rfl rfl trivial (wR v n r ps hv hl hm hp) ?_ ⟨.inl ⟨by simp,rfl⟩,Nat.zero_le _⟩ ?_ ?_ ?_
 ·intro y hy
  obtain⟨p,_,rfl⟩:=List.mem_map.1 hy
  rfl
 ·rintro i O ⟨h | ⟨_,ver,rfl⟩,_⟩
  ·rw[h.2]
   refine⟨by simp,?_⟩
   intro o ho x hx c hc
   simp only[mem_singleton]at ho
   subst ho
   simp only[mem_singleton]at hx
   subst hx
   simp only[PV.cells,mem_singleton]at hc
   subst hc
   rfl
  ·refine⟨by simp,?_⟩
   intro o ho x hx c hc
   simp only[List.mem_cons,List.not_mem_nil,or_false]at ho
   rcases ho with rfl | rfl
   ·simp only[mem_singleton]at hx
    subst hx
    simp only[PV.cells,mem_singleton]at hc
    subst hc
    rfl
   ·simp only[List.mem_map]at hx
    obtain⟨p,_,rfl⟩:=hx
    simp only[aj,PV.cells,mem_singleton]at hc
    subst hc
    rfl
 ·rintro i args O ⟨hO,hi⟩ ha
  rw[List.getElem?_map]at ha
  obtain⟨p,hpi,rfl⟩:∃p,ps[i]?=some p∧rowOf p=args:=by
   cases hx:ps[i]? with
   | none=>rw[hx]at ha;simp at ha
   | some p=>rw[hx]at ha;exact⟨p,rfl,by simpa using ha⟩
  have hil:i<ps.length:=(List.getElem?_eq_some_iff.1 hpi).1
  have htk:ps.take (i+1)=ps.take i++[p]:=by rw[List.take_add_one,hpi];rfl
  rcases hO with ⟨h0,rfl⟩ | ⟨h0,ver,rfl⟩
  ·simp only[rowOf,jH,Xm,↓Og,↓Gu,reduceIte,Bool.false_eq_true,if_false,↓Nk,↓Qs,↓Ki,↓Qt,Kj,↓yS,↓vR,Nat.reduceAdd,Nat.reduceSub,Da,dX,gy,eD,bL,dK,ng,newObj,iC,jo,aL,Oh,wH,LB,LD,ne_eq,reduceCtorEq,not_false_eq_true,true_and,length_cons,length_nil,nil_append]
   refine⟨by decide,λ_=>trivial,rfl,by decide,rfl,rfl,rfl,?_,by decide,by decide,by decide,λ_=>trivial,rfl,.inr ⟨by rw[htk];simp,1,?_⟩,by omega⟩
   ·intro y hy
    simp only[mem_singleton]at hy
    subst hy
    exact⟨rfl,rfl⟩
   ·rw[htk,h0];rfl
  ·have hlen:ps.length≤1099511627776:=by
     have h1:=dW _ _ _ hp
     have h2:=iY _ _ _ hp
     rw[hv]at hl
     simp at hl
     omega
   simp only[rowOf,jH,Xm,↓Og,↓Gu,reduceIte,Bool.false_eq_true,if_false,↓Nk,↓Qs,↓Ki,↓Qt,Kj,↓yS,↓vR,Nat.reduceAdd,Nat.reduceSub,Da,dX,gy,eD,bL,dK,ng,newObj,iC,jo,aL,Oh,wH,LB,LD,ne_eq,reduceCtorEq,not_false_eq_true,true_and,length_cons,length_nil,nil_append]
   refine⟨by decide,λ_=>trivial,rfl,by decide,rfl,rfl,rfl,?_,by simp;omega,by simp;omega,λ_ _ h=>h.elim,by decide,λ_=>trivial,rfl,.inr ⟨by rw[htk];simp,ver+1,?_⟩,by omega⟩
   ·intro y hy
    simp only[mem_singleton]at hy
    subst hy
    exact⟨rfl,rfl⟩
   ·rw[htk,List.map_append];rfl
 ·rintro O ⟨hO,_⟩
  rw[List.length_map,List.take_length]at hO
  rcases hO with ⟨h0,rfl⟩ | ⟨h0,ver,rfl⟩
  ·rw[if_pos h0]
   simp only[Xm,↓Og,↓Gu,reduceIte,↓Ki,Kj,Da,eD,Oh,wH,LB,LD,Bv,kT,fU,Rh,fzR,ne_eq,reduceCtorEq,not_false_eq_true,true_and,length_cons,length_nil,nil_append]
   exact⟨by decide,λ_=>trivial,rfl,trivial⟩
  ·rw[if_neg h0]
   simp only[Xm,↓Og,↓Gu,reduceIte,↓Ki,Kj,Da,eD,Oh,wH,LB,LD,Bv,kT,fU,Rh,fzR,ne_eq,reduceCtorEq,not_false_eq_true,true_and,length_cons,length_nil,nil_append]
   refine⟨by decide,λ_=>trivial,rfl,?_⟩
   simp only[fA,Nat.not_lt_zero,if_false,kD,List.getElem?_cons_succ,List.getElem?_cons_zero,Nat.le_refl,Nat.zero_le,decide_true,Bool.and_self,BEq.rfl,if_true,List.map_map]
   congr 1
theorem Rq(v:Vl)(n:Nd)(r:Vl)(ps:List Vl)(hv:v=n::r)(hl:v.length≤1099511627776)(hm:0≤n.many)(hp:parts n.many.toNat r=some ps) :
  av Tryz.prog 52 [aj v] [] (.sl 1 (ps.map λp=>aj (gI p)) none) []:=by
 refine (Eh v n r ps hv hl hm hp).Xj λw ok u h=>?_
 split at h
 ·rename_i h0
  subst h0
  exact Lv h (by simp)
 ·exact h
end Lp
namespace Lp
open Go Go.Proofs
open List (length_cons length_nil map_map mem_singleton nil_append)
def Vf(done:List Vl)(O:List Obj):Prop:=
 (done=[]∧O=[⟨75,1,[.sl 0 [] (some true)],true,1⟩])∨
 (done≠[]∧∃ver,O=[⟨75,1,[.aS 1 ver],true,1⟩,⟨9,1,done.map λp=>.str (nameOf p),true,ver⟩])
theorem Ei(v:Vl)(n:Nd)(r:Vl)(ps:List Vl)(hv:v=n::r)(hl:v.length≤1099511627776)(hm:0≤n.many)(hp:parts n.many.toNat r=some ps) :
  av Tryz.prog 76 [aj v] [] (if n.kind=6∧ps≠[] then .sl 1 (ps.map λp=>.str (nameOf p)) none else .sl 0 [] (some true)) []:=by
 subst hv
 refine Ef.pure (T:=bA Tryz.prog [(80,BK)]) 2 hD (ay (af Gz au)) bE (by decide) ?_
 (conv=>arg 4;cbv);simp only[↓Nk,U9,↓Qs,↓Ki,↓Qt,Kj,↓yS,↓vR,Nat.reduceAdd,Nat.reduceSub,Da,dX,caR,taR,BK,Nat.reduceBEq,BEq.rfl,cond_true,cond_false,rJ,newObj,aL,↓Gt,↓Og,bH,eD,aU,dU,aj,aM,Wj,TA,Oh,wH,List.map_cons,Int.reduceToNat,Int.toNat_zero,Int.reduceLE,Nat.reduceLeDiff,forall_const,Bool.not_false,Bool.and_self,↓Gu,Xm,Bv,kT,fU,Rh,LB,LD,ne_eq,reduceCtorEq,not_false_eq_true,true_and,length_cons,length_nil,nil_append]
 refine⟨rfl,λhk=>⟨n::r,rfl,?_⟩,λhk=>?_⟩
 ·have Rs:n.kind=6:=of_decide_eq_true hk
  refine z_ 107 [.addr (aj (n::r))] (ps.map rowOf) (λi O=>Vf (ps.take i) O∧i≤ps.length) rfl rfl rfl trivial (wR (n::r) n r ps rfl hl hm hp) ?_ ⟨.inl ⟨by simp,rfl⟩,Nat.zero_le _⟩ ?_ ?_ ?_
  ·intro y hy
   obtain⟨p,_,rfl⟩:=List.mem_map.1 hy
   rfl
  ·rintro i O ⟨h | ⟨_,ver,rfl⟩,_⟩
   ·rw[h.2]
    refine⟨by simp,?_⟩
    intro o ho x hx c hc
    simp only[mem_singleton]at ho
    subst ho
    simp only[mem_singleton]at hx
    subst hx
    simp only[PV.cells,mem_singleton]at hc
    subst hc
    rfl
   ·refine⟨by simp,?_⟩
    intro o ho x hx c hc
    simp only[List.mem_cons,List.not_mem_nil,or_false]at ho
    rcases ho with rfl | rfl
    ·simp only[mem_singleton]at hx
     subst hx
     simp only[PV.cells,mem_singleton]at hc
     subst hc
     rfl
    ·simp only[List.mem_map]at hx
     obtain⟨p,_,rfl⟩:=hx
     simp only[PV.cells,mem_singleton]at hc
     subst hc
     rfl
  ·rintro i args O ⟨hO,hi⟩ ha
   rw[List.getElem?_map]at ha
   obtain⟨p,hpi,rfl⟩:∃p,ps[i]?=some p∧rowOf p=args:=by
    cases hx:ps[i]? with
    | none=>rw[hx]at ha;simp at ha
    | some p=>rw[hx]at ha;exact⟨p,rfl,by simpa using ha⟩
   have hil:i<ps.length:=(List.getElem?_eq_some_iff.1 hpi).1
   have htk:ps.take (i+1)=ps.take i++[p]:=by rw[List.take_add_one,hpi];rfl
   rcases hO with ⟨h0,rfl⟩ | ⟨h0,ver,rfl⟩
   ·simp only[rowOf,jH,Xm,↓Og,↓Gu,reduceIte,Bool.false_eq_true,if_false,↓Nk,↓Qs,↓Ki,↓Qt,Kj,↓yS,↓vR,Nat.reduceAdd,Nat.reduceSub,Da,dX,gy,eD,bL,dK,ng,newObj,iC,jo,aL,Oh,wH,LB,LD,ne_eq,reduceCtorEq,not_false_eq_true,true_and,length_cons,length_nil,nil_append]
    refine⟨by decide,λ_=>trivial,rfl,by decide,rfl,rfl,rfl,?_,by decide,by decide,by decide,λ_=>trivial,rfl,.inr ⟨by rw[htk];simp,1,?_⟩,by omega⟩
    ·intro y hy
     simp only[mem_singleton]at hy
     subst hy
     exact⟨rfl,rfl⟩
    ·rw[htk,h0];rfl
   ·have hlen:ps.length≤1099511627776:=by
      have h1:=dW _ _ _ hp
      have h2:=iY _ _ _ hp
      simp at hl
      omega
    simp only[rowOf,jH,Xm,↓Og,↓Gu,reduceIte,Bool.false_eq_true,if_false,↓Nk,↓Qs,↓Ki,↓Qt,Kj,↓yS,↓vR,Nat.reduceAdd,Nat.reduceSub,Da,dX,gy,eD,bL,dK,ng,newObj,iC,jo,aL,Oh,wH,LB,LD,ne_eq,reduceCtorEq,not_false_eq_true,true_and,length_cons,length_nil,nil_append]
    refine⟨by decide,λ_=>trivial,rfl,by decide,rfl,rfl,rfl,?_,by simp;omega,by simp;omega,λ_ _ h=>h.elim,by decide,λ_=>trivial,rfl,.inr ⟨by rw[htk];simp,ver+1,?_⟩,by omega⟩
    ·intro y hy
     simp only[mem_singleton]at hy
     subst hy
     exact⟨rfl,rfl⟩
    ·rw[htk,List.map_append];rfl
  ·rintro O ⟨hO,_⟩
   rw[List.length_map,List.take_length]at hO
   rcases hO with ⟨h0,rfl⟩ | ⟨h0,ver,rfl⟩
   ·rw[if_neg (λh=>h.2 h0)]
    simp only[Xm,↓Og,↓Gu,reduceIte,↓Ki,Kj,Da,eD,Oh,wH,LB,LD,Bv,kT,fU,Rh,fzR,ne_eq,reduceCtorEq,not_false_eq_true,true_and,length_cons,length_nil,nil_append]
    simp
   ·rw[if_pos ⟨Rs,h0⟩]
    simp only[Xm,↓Og,↓Gu,reduceIte,↓Ki,Kj,Da,eD,Oh,wH,LB,LD,Bv,kT,fU,Rh,fzR,ne_eq,reduceCtorEq,not_false_eq_true,true_and,length_cons,length_nil,nil_append]
    refine⟨by decide,rfl,?_⟩
    simp only[fA,Nat.not_lt_zero,if_false,kD,List.getElem?_cons_succ,List.getElem?_cons_zero,Nat.le_refl,Nat.zero_le,decide_true,Bool.and_self,BEq.rfl,if_true,map_map]
    congr 1
 ·have Rs:n.kind≠6:=of_decide_eq_false hk
  rw[if_neg (λh=>Rs h.1)]
theorem Ru(v:Vl)(n:Nd)(r:Vl)(ps:List Vl)(hv:v=n::r)(hl:v.length≤1099511627776)(hm:0≤n.many)(hp:parts n.many.toNat r=some ps) :
  av Tryz.prog 76 [aj v] [] (.sl 1 ((KS n ps).map .str) none) []:=by
 refine (Ei v n r ps hv hl hm hp).Xj λw ok u h=>?_
 unfold KS
 by_cases hk:n.kind=6
 ·rw[if_pos hk]
  by_cases h0:ps=[]
  ·subst h0
   rw[if_neg (λh=>h.2 rfl)]at h
   exact Lv h (by simp)
  ·rw[if_pos ⟨hk,h0⟩]at h
   rw[map_map]
   exact h
 ·rw[if_neg hk]
  rw[if_neg (λh=>hk h.1)]at h
  exact Lv h (by simp)
end Lp
namespace Lp
open Go Go.Proofs
theorem qz(x:Nd):fA 1 0 [⟨46,6,[aM x],true,1⟩] (.bf 0 1 0 0)=.addr (aM x):=rfl
theorem tf(p:Prop):p=True∨p=False:=by
 by_cases h:p
 ·exact .inl (eq_true h)
 ·exact .inr (eq_false h)
end Lp
namespace Lp
open Go Go.Proofs
open Bool (false_eq_true)
theorem iM(c:UInt8)(n:Nat)(h:n<256):(c<UInt8.ofNat n↔c.toNat<n)∧(UInt8.ofNat n≤c↔n≤c.toNat):=by
 have e:(UInt8.ofNat n).toNat=n:=by simp[UInt8.toNat_ofNat'];omega
 constructor
 ·rw[UInt8.lt_iff_toNat_lt,e]
 ·rw[UInt8.le_iff_toNat_le,e]
theorem Rv{s:List UInt8}{i:Nat}{c:UInt8}(h:s[i]?=some c):fK s i=(decide (128≤c.toNat) && decide (c.toNat<192)):=by
 have h1:128≤c↔128≤c.toNat:=(iM c 128 (by omega)).2
 have h2:c<192↔c.toNat<192:=(iM c 192 (by omega)).1
 simp only[fK,h]
 rw[decide_eq_decide.2 h1,decide_eq_decide.2 h2]
theorem Vg(s:List UInt8)(i:Int)(hi:0≤i):av Tryz.prog 86 [.str s,.int .i64 i] [] (.bool (fK s i.toNat)) []:=by
 refine BD.pure (T:=bA Tryz.prog []) 0 hD (ay au) bE (by decide) ?_
 rcases Nat.lt_or_ge i.toNat s.length with h | h
 ·have hg:=List.getElem?_eq_getElem h
  generalize s[i.toNat]=c at hg
  (conv=>arg 4;cbv);simp (maxSteps:=400000) only[↓aG,aH,BEq.rfl,seval,hg,Rv hg]
  refine⟨λ_=>⟨hi,λh1=>⟨hi,?_⟩,λh1=>?_⟩,λh2=>absurd (by omega) h2⟩
  ·have:128≤c.toNat:=by omega
   simp only[this,decide_true,Bool.true_and]
   exact decide_eq_decide.2 (by omega)
  ·have:¬ 128≤c.toNat:=by omega
   simp only[this,decide_false,Bool.false_and]
 ·have hn:s[i.toNat]?=none:=List.getElem?_eq_none h
  (conv=>arg 4;cbv);simp (maxSteps:=400000) only[↓aG,aH,BEq.rfl,seval]
  simp only[fK,hn]
  exact⟨λhh=>absurd hh (by omega),λ_=>trivial⟩
def dP:d9:=λargs objs K=>match args with
 | [.str s,.int .i64 i]=>(0≤i)∧K (.bool (fK s i.toNat)) objs 0
 | _=>False
theorem Rw:aR Tryz.prog 86 (dP):=by
 intro args objs K h
 unfold dP at h
 split at h
 ·rename_i s i
  obtain⟨h1,hk⟩:=h
  exact⟨_,_,_,.pure _ rfl (Vg s i h1),hk⟩
 ·exact h.elim
theorem Aj(s:List UInt8)(i k:Nat):fK (s.drop i) k=fK s (i+k):=by
 simp only[fK,List.getElem?_drop]
theorem Dh{s:List UInt8}{i:Nat}(h:fK s i=true):∃d,s[i]?=some d:=by
 unfold fK at h
 split at h
 ·rename_i b hb;exact⟨b,hb⟩
 ·cases h
theorem Vh(s:List UInt8)(i:Nat)(hi:i<s.length)(hl:s.length≤4611686018427387904):av Tryz.prog 61 [.str s,.int .i64 i] [] (.int .i64 (dw (s.drop i):Nat)) []:=by
 have hg:=List.getElem?_eq_getElem hi
 have hd:=List.drop_eq_getElem_cons hi
 generalize s[i]=c at hg hd
 have c0:fK (s.drop (i+1)) 0=fK s (i+1):=Aj s (i+1) 0
 have c1:fK (s.drop (i+1)) 1=fK s (i+2):=Aj s (i+1) 1
 have c2:fK (s.drop (i+1)) 2=fK s (i+3):=Aj s (i+1) 2
 have n1:((i:Int)+1).toNat=i+1:=by omega
 have n2:((i:Int)+2).toNat=i+2:=by omega
 have n3:((i:Int)+3).toNat=i+3:=by omega
 have z0:(0≤(i:Int))=True:=eq_true (by omega)
 have z1:(0≤(i:Int)+1)=True:=eq_true (by omega)
 have z2:(0≤(i:Int)+2)=True:=eq_true (by omega)
 have z3:(0≤(i:Int)+3)=True:=eq_true (by omega)
 have i1:(-9223372036854775808≤(i:Int)+1∧(i:Int)+1≤9223372036854775807)=True:=eq_true ⟨by omega,by omega⟩
 have i2:(-9223372036854775808≤(i:Int)+2∧(i:Int)+2≤9223372036854775807)=True:=eq_true ⟨by omega,by omega⟩
 have i3:(-9223372036854775808≤(i:Int)+3∧(i:Int)+3≤9223372036854775807)=True:=eq_true ⟨by omega,by omega⟩
 suffices gen:∀Q:Exit→St→Prop,(∀(l:List (Nat×PV)) (v:Nat),qK l 4=.int .i64 v→v=dw (c::s.drop (i+1))→Q .ret ⟨dD 109 l,[]⟩)→
   iK Tryz.prog D (bA Tryz.prog [(86,dP)]) qZ Q (aY [.str s,.int .i64 i] 109) by
  rw[hd]
  refine BA.pure (T:=bA Tryz.prog [(86,dP)]) 0 hD (ay (af Rw au)) bE (by decide) ?_
  refine gen _ λl v h1 h2=>?_
  subst h2
  simp only[Bv,kT,fU,abR,uI,Nat.reduceLT,h1,List.map_cons,List.map_nil,Rh]
 intro Q hQ
 have hc:c.toNat<256:=c.toNat_lt
 have h6:c.toNat<128∨(128≤c.toNat∧c.toNat<194)∨(194≤c.toNat∧c.toNat<224)∨(224≤c.toNat∧c.toNat<240)∨(240≤c.toNat∧c.toNat<245)∨245≤c.toNat:=by omega
 rcases h6 with h | h | h | h | h | h
 ·skip
  have f0:(((c.toNat:Int)<128)=True):=eq_true (by omega)
  have f1:((128≤(c.toNat:Int))=False):=eq_false (by omega)
  have f2:((c<128)=True):=eq_true ((iM c 128 (by omega)).1.2 (by omega))
  have f3:((128≤c)=False):=eq_false λhh=>by have:=(iM c 128 (by omega)).2.1 hh;omega
  have f4:(((c.toNat:Int)<194)=True):=eq_true (by omega)
  have f5:((194≤(c.toNat:Int))=False):=eq_false (by omega)
  have f6:((c<194)=True):=eq_true ((iM c 194 (by omega)).1.2 (by omega))
  have f7:((194≤c)=False):=eq_false λhh=>by have:=(iM c 194 (by omega)).2.1 hh;omega
  have f8:(((c.toNat:Int)<224)=True):=eq_true (by omega)
  have f9:((224≤(c.toNat:Int))=False):=eq_false (by omega)
  have f10:((c<224)=True):=eq_true ((iM c 224 (by omega)).1.2 (by omega))
  have f11:((224≤c)=False):=eq_false λhh=>by have:=(iM c 224 (by omega)).2.1 hh;omega
  have f12:(((c.toNat:Int)<240)=True):=eq_true (by omega)
  have f13:((240≤(c.toNat:Int))=False):=eq_false (by omega)
  have f14:((c<240)=True):=eq_true ((iM c 240 (by omega)).1.2 (by omega))
  have f15:((240≤c)=False):=eq_false λhh=>by have:=(iM c 240 (by omega)).2.1 hh;omega
  have f16:(((c.toNat:Int)<245)=True):=eq_true (by omega)
  have f17:((245≤(c.toNat:Int))=False):=eq_false (by omega)
  have f18:((c<245)=True):=eq_true ((iM c 245 (by omega)).1.2 (by omega))
  have f19:((245≤c)=False):=eq_false λhh=>by have:=(iM c 245 (by omega)).2.1 hh;omega
  (conv=>arg 4;cbv);simp (maxSteps:=400000) only[↓aG,aH,BEq.rfl,seval,hg,↓dP,n1,n2,n3,z0,z1,z2,z3,i1,i2,i3,f0,f1,f2,f3,f4,f5,f6,f7,f8,f9,f10,f11,f12,f13,f14,f15,f16,f17,f18,f19]
  exact hQ _ 1 rfl (by simp only[true_or,or_true,or_self,or_false,false_or,and_self,true_and,and_true,false_and,and_false,if_true,if_false,false_eq_true,c0,c1,c2,dw,f0,f1,f2,f3,f4,f5,f6,f7,f8,f9,f10,f11,f12,f13,f14,f15,f16,f17,f18,f19])
 ·skip
  have f0:(((c.toNat:Int)<128)=False):=eq_false (by omega)
  have f1:((128≤(c.toNat:Int))=True):=eq_true (by omega)
  have f2:((c<128)=False):=eq_false λhh=>by have:=(iM c 128 (by omega)).1.1 hh;omega
  have f3:((128≤c)=True):=eq_true ((iM c 128 (by omega)).2.2 (by omega))
  have f4:(((c.toNat:Int)<194)=True):=eq_true (by omega)
  have f5:((194≤(c.toNat:Int))=False):=eq_false (by omega)
  have f6:((c<194)=True):=eq_true ((iM c 194 (by omega)).1.2 (by omega))
  have f7:((194≤c)=False):=eq_false λhh=>by have:=(iM c 194 (by omega)).2.1 hh;omega
  have f8:(((c.toNat:Int)<224)=True):=eq_true (by omega)
  have f9:((224≤(c.toNat:Int))=False):=eq_false (by omega)
  have f10:((c<224)=True):=eq_true ((iM c 224 (by omega)).1.2 (by omega))
  have f11:((224≤c)=False):=eq_false λhh=>by have:=(iM c 224 (by omega)).2.1 hh;omega
  have f12:(((c.toNat:Int)<240)=True):=eq_true (by omega)
  have f13:((240≤(c.toNat:Int))=False):=eq_false (by omega)
  have f14:((c<240)=True):=eq_true ((iM c 240 (by omega)).1.2 (by omega))
  have f15:((240≤c)=False):=eq_false λhh=>by have:=(iM c 240 (by omega)).2.1 hh;omega
  have f16:(((c.toNat:Int)<245)=True):=eq_true (by omega)
  have f17:((245≤(c.toNat:Int))=False):=eq_false (by omega)
  have f18:((c<245)=True):=eq_true ((iM c 245 (by omega)).1.2 (by omega))
  have f19:((245≤c)=False):=eq_false λhh=>by have:=(iM c 245 (by omega)).2.1 hh;omega
  (conv=>arg 4;cbv);simp (maxSteps:=400000) only[↓aG,aH,BEq.rfl,seval,hg,↓dP,n1,n2,n3,z0,z1,z2,z3,i1,i2,i3,f0,f1,f2,f3,f4,f5,f6,f7,f8,f9,f10,f11,f12,f13,f14,f15,f16,f17,f18,f19]
  exact hQ _ 0 rfl (by simp only[true_or,or_true,or_self,or_false,false_or,and_self,true_and,and_true,false_and,and_false,if_true,if_false,false_eq_true,c0,c1,c2,dw,f0,f1,f2,f3,f4,f5,f6,f7,f8,f9,f10,f11,f12,f13,f14,f15,f16,f17,f18,f19])
 ·skip
  have f0:(((c.toNat:Int)<128)=False):=eq_false (by omega)
  have f1:((128≤(c.toNat:Int))=True):=eq_true (by omega)
  have f2:((c<128)=False):=eq_false λhh=>by have:=(iM c 128 (by omega)).1.1 hh;omega
  have f3:((128≤c)=True):=eq_true ((iM c 128 (by omega)).2.2 (by omega))
  have f4:(((c.toNat:Int)<194)=False):=eq_false (by omega)
  have f5:((194≤(c.toNat:Int))=True):=eq_true (by omega)
  have f6:((c<194)=False):=eq_false λhh=>by have:=(iM c 194 (by omega)).1.1 hh;omega
  have f7:((194≤c)=True):=eq_true ((iM c 194 (by omega)).2.2 (by omega))
  have f8:(((c.toNat:Int)<224)=True):=eq_true (by omega)
  have f9:((224≤(c.toNat:Int))=False):=eq_false (by omega)
  have f10:((c<224)=True):=eq_true ((iM c 224 (by omega)).1.2 (by omega))
  have f11:((224≤c)=False):=eq_false λhh=>by have:=(iM c 224 (by omega)).2.1 hh;omega
  have f12:(((c.toNat:Int)<240)=True):=eq_true (by omega)
  have f13:((240≤(c.toNat:Int))=False):=eq_false (by omega)
  have f14:((c<240)=True):=eq_true ((iM c 240 (by omega)).1.2 (by omega))
  have f15:((240≤c)=False):=eq_false λhh=>by have:=(iM c 240 (by omega)).2.1 hh;omega
  have f16:(((c.toNat:Int)<245)=True):=eq_true (by omega)
  have f17:((245≤(c.toNat:Int))=False):=eq_false (by omega)
  have f18:((c<245)=True):=eq_true ((iM c 245 (by omega)).1.2 (by omega))
  have f19:((245≤c)=False):=eq_false λhh=>by have:=(iM c 245 (by omega)).2.1 hh;omega
  cases k1:fK s (i+1)
  ·skip
   (conv=>arg 4;cbv);simp (maxSteps:=400000) only[↓aG,aH,BEq.rfl,seval,hg,↓dP,n1,n2,n3,z0,z1,z2,z3,i1,i2,i3,f0,f1,f2,f3,f4,f5,f6,f7,f8,f9,f10,f11,f12,f13,f14,f15,f16,f17,f18,f19,k1]
   exact hQ _ 0 rfl (by simp only[true_or,or_true,or_self,or_false,false_or,and_self,true_and,and_true,false_and,and_false,if_true,if_false,false_eq_true,c0,c1,c2,dw,f0,f1,f2,f3,f4,f5,f6,f7,f8,f9,f10,f11,f12,f13,f14,f15,f16,f17,f18,f19,k1])
  ·skip
   (conv=>arg 4;cbv);simp (maxSteps:=400000) only[↓aG,aH,BEq.rfl,seval,hg,↓dP,n1,n2,n3,z0,z1,z2,z3,i1,i2,i3,f0,f1,f2,f3,f4,f5,f6,f7,f8,f9,f10,f11,f12,f13,f14,f15,f16,f17,f18,f19,k1]
   exact hQ _ 2 rfl (by simp only[true_or,or_true,or_self,or_false,false_or,and_self,true_and,and_true,false_and,and_false,if_true,if_false,false_eq_true,c0,c1,c2,dw,f0,f1,f2,f3,f4,f5,f6,f7,f8,f9,f10,f11,f12,f13,f14,f15,f16,f17,f18,f19,k1])
 ·skip
  have f0:(((c.toNat:Int)<128)=False):=eq_false (by omega)
  have f1:((128≤(c.toNat:Int))=True):=eq_true (by omega)
  have f2:((c<128)=False):=eq_false λhh=>by have:=(iM c 128 (by omega)).1.1 hh;omega
  have f3:((128≤c)=True):=eq_true ((iM c 128 (by omega)).2.2 (by omega))
  have f4:(((c.toNat:Int)<194)=False):=eq_false (by omega)
  have f5:((194≤(c.toNat:Int))=True):=eq_true (by omega)
  have f6:((c<194)=False):=eq_false λhh=>by have:=(iM c 194 (by omega)).1.1 hh;omega
  have f7:((194≤c)=True):=eq_true ((iM c 194 (by omega)).2.2 (by omega))
  have f8:(((c.toNat:Int)<224)=False):=eq_false (by omega)
  have f9:((224≤(c.toNat:Int))=True):=eq_true (by omega)
  have f10:((c<224)=False):=eq_false λhh=>by have:=(iM c 224 (by omega)).1.1 hh;omega
  have f11:((224≤c)=True):=eq_true ((iM c 224 (by omega)).2.2 (by omega))
  have f12:(((c.toNat:Int)<240)=True):=eq_true (by omega)
  have f13:((240≤(c.toNat:Int))=False):=eq_false (by omega)
  have f14:((c<240)=True):=eq_true ((iM c 240 (by omega)).1.2 (by omega))
  have f15:((240≤c)=False):=eq_false λhh=>by have:=(iM c 240 (by omega)).2.1 hh;omega
  have f16:(((c.toNat:Int)<245)=True):=eq_true (by omega)
  have f17:((245≤(c.toNat:Int))=False):=eq_false (by omega)
  have f18:((c<245)=True):=eq_true ((iM c 245 (by omega)).1.2 (by omega))
  have f19:((245≤c)=False):=eq_false λhh=>by have:=(iM c 245 (by omega)).2.1 hh;omega
  cases k1:fK s (i+1)
  ·skip
   (conv=>arg 4;cbv);simp (maxSteps:=400000) only[↓aG,aH,BEq.rfl,seval,hg,↓dP,n1,n2,n3,z0,z1,z2,z3,i1,i2,i3,f0,f1,f2,f3,f4,f5,f6,f7,f8,f9,f10,f11,f12,f13,f14,f15,f16,f17,f18,f19,k1]
   exact hQ _ 0 rfl (by simp only[true_or,or_true,or_self,or_false,false_or,and_self,true_and,and_true,false_and,and_false,if_true,if_false,false_eq_true,c0,c1,c2,dw,f0,f1,f2,f3,f4,f5,f6,f7,f8,f9,f10,f11,f12,f13,f14,f15,f16,f17,f18,f19,k1])
  cases k2:fK s (i+2)
  ·skip
   (conv=>arg 4;cbv);simp (maxSteps:=400000) only[↓aG,aH,BEq.rfl,seval,hg,↓dP,n1,n2,n3,z0,z1,z2,z3,i1,i2,i3,f0,f1,f2,f3,f4,f5,f6,f7,f8,f9,f10,f11,f12,f13,f14,f15,f16,f17,f18,f19,k1,k2]
   exact hQ _ 0 rfl (by simp only[true_or,or_true,or_self,or_false,false_or,and_self,true_and,and_true,false_and,and_false,if_true,if_false,false_eq_true,c0,c1,c2,dw,f0,f1,f2,f3,f4,f5,f6,f7,f8,f9,f10,f11,f12,f13,f14,f15,f16,f17,f18,f19,k1,k2])
  obtain⟨d,hd1⟩:=Dh k1
  have hhd:(List.drop (i+1) s).headD 0=d:=by rw[List.headD_eq_head?_getD,List.head?_drop,hd1];rfl
  by_cases hc224:c.toNat=224
  ·have TG:c.toNat≠237:=by omega
   have e0:(((c.toNat:Int)=224)=True):=eq_true (by omega)
   have e1:((c=224)=True):=eq_true (UInt8.toNat_inj.1 (by simpa using hc224))
   have e2:(((c.toNat:Int)=237)=False):=eq_false (by omega)
   have e3:((c=237)=False):=eq_false λhh=>TG (by rw[hh];rfl)
   by_cases hdl:d.toNat<160
   ·skip
    have g0:(((d.toNat:Int)<160)=True):=eq_true (by omega)
    have g1:((160≤(d.toNat:Int))=False):=eq_false (by omega)
    have g2:((d<160)=True):=eq_true ((iM d 160 (by omega)).1.2 (by omega))
    have g3:((160≤d)=False):=eq_false λhh=>by have:=(iM d 160 (by omega)).2.1 hh;omega
    (conv=>arg 4;cbv);simp (maxSteps:=400000) only[↓aG,aH,BEq.rfl,seval,hg,↓dP,n1,n2,n3,z0,z1,z2,z3,i1,i2,i3,f0,f1,f2,f3,f4,f5,f6,f7,f8,f9,f10,f11,f12,f13,f14,f15,f16,f17,f18,f19,k1,k2,hd1,hhd,e0,e1,e2,e3,g0,g1,g2,g3]
    exact hQ _ 0 rfl (by simp only[true_or,or_true,or_self,or_false,false_or,and_self,true_and,and_true,false_and,and_false,if_true,if_false,false_eq_true,c0,c1,c2,dw,f0,f1,f2,f3,f4,f5,f6,f7,f8,f9,f10,f11,f12,f13,f14,f15,f16,f17,f18,f19,k1,k2,hd1,hhd,e0,e1,e2,e3,g0,g1,g2,g3])
   ·skip
    have g0:(((d.toNat:Int)<160)=False):=eq_false (by omega)
    have g1:((160≤(d.toNat:Int))=True):=eq_true (by omega)
    have g2:((d<160)=False):=eq_false λhh=>by have:=(iM d 160 (by omega)).1.1 hh;omega
    have g3:((160≤d)=True):=eq_true ((iM d 160 (by omega)).2.2 (by omega))
    (conv=>arg 4;cbv);simp (maxSteps:=400000) only[↓aG,aH,BEq.rfl,seval,hg,↓dP,n1,n2,n3,z0,z1,z2,z3,i1,i2,i3,f0,f1,f2,f3,f4,f5,f6,f7,f8,f9,f10,f11,f12,f13,f14,f15,f16,f17,f18,f19,k1,k2,hd1,hhd,e0,e1,e2,e3,g0,g1,g2,g3]
    exact hQ _ 3 rfl (by simp only[true_or,or_true,or_self,or_false,false_or,and_self,true_and,and_true,false_and,and_false,if_true,if_false,false_eq_true,c0,c1,c2,dw,f0,f1,f2,f3,f4,f5,f6,f7,f8,f9,f10,f11,f12,f13,f14,f15,f16,f17,f18,f19,k1,k2,hd1,hhd,e0,e1,e2,e3,g0,g1,g2,g3])
  ·by_cases TG:c.toNat=237
   ·skip
    have e0:(((c.toNat:Int)=224)=False):=eq_false (by omega)
    have e1:((c=224)=False):=eq_false λhh=>hc224 (by rw[hh];rfl)
    have e2:(((c.toNat:Int)=237)=True):=eq_true (by omega)
    have e3:((c=237)=True):=eq_true (UInt8.toNat_inj.1 (by simpa using TG))
    by_cases hdl:d.toNat<160
    ·skip
     have g0:(((d.toNat:Int)<160)=True):=eq_true (by omega)
     have g1:((160≤(d.toNat:Int))=False):=eq_false (by omega)
     have g2:((d<160)=True):=eq_true ((iM d 160 (by omega)).1.2 (by omega))
     have g3:((160≤d)=False):=eq_false λhh=>by have:=(iM d 160 (by omega)).2.1 hh;omega
     (conv=>arg 4;cbv);simp (maxSteps:=400000) only[↓aG,aH,BEq.rfl,seval,hg,↓dP,n1,n2,n3,z0,z1,z2,z3,i1,i2,i3,f0,f1,f2,f3,f4,f5,f6,f7,f8,f9,f10,f11,f12,f13,f14,f15,f16,f17,f18,f19,k1,k2,hd1,hhd,e0,e1,e2,e3,g0,g1,g2,g3]
     exact hQ _ 3 rfl (by simp only[true_or,or_true,or_self,or_false,false_or,and_self,true_and,and_true,false_and,and_false,if_true,if_false,false_eq_true,c0,c1,c2,dw,f0,f1,f2,f3,f4,f5,f6,f7,f8,f9,f10,f11,f12,f13,f14,f15,f16,f17,f18,f19,k1,k2,hd1,hhd,e0,e1,e2,e3,g0,g1,g2,g3])
    ·skip
     have g0:(((d.toNat:Int)<160)=False):=eq_false (by omega)
     have g1:((160≤(d.toNat:Int))=True):=eq_true (by omega)
     have g2:((d<160)=False):=eq_false λhh=>by have:=(iM d 160 (by omega)).1.1 hh;omega
     have g3:((160≤d)=True):=eq_true ((iM d 160 (by omega)).2.2 (by omega))
     (conv=>arg 4;cbv);simp (maxSteps:=400000) only[↓aG,aH,BEq.rfl,seval,hg,↓dP,n1,n2,n3,z0,z1,z2,z3,i1,i2,i3,f0,f1,f2,f3,f4,f5,f6,f7,f8,f9,f10,f11,f12,f13,f14,f15,f16,f17,f18,f19,k1,k2,hd1,hhd,e0,e1,e2,e3,g0,g1,g2,g3]
     exact hQ _ 0 rfl (by simp only[true_or,or_true,or_self,or_false,false_or,and_self,true_and,and_true,false_and,and_false,if_true,if_false,false_eq_true,c0,c1,c2,dw,f0,f1,f2,f3,f4,f5,f6,f7,f8,f9,f10,f11,f12,f13,f14,f15,f16,f17,f18,f19,k1,k2,hd1,hhd,e0,e1,e2,e3,g0,g1,g2,g3])
   ·skip
    have e0:(((c.toNat:Int)=224)=False):=eq_false (by omega)
    have e1:((c=224)=False):=eq_false λhh=>hc224 (by rw[hh];rfl)
    have e2:(((c.toNat:Int)=237)=False):=eq_false (by omega)
    have e3:((c=237)=False):=eq_false λhh=>TG (by rw[hh];rfl)
    (conv=>arg 4;cbv);simp (maxSteps:=400000) only[↓aG,aH,BEq.rfl,seval,hg,↓dP,n1,n2,n3,z0,z1,z2,z3,i1,i2,i3,f0,f1,f2,f3,f4,f5,f6,f7,f8,f9,f10,f11,f12,f13,f14,f15,f16,f17,f18,f19,k1,k2,hd1,hhd,e0,e1,e2,e3]
    exact hQ _ 3 rfl (by simp only[true_or,or_true,or_self,or_false,false_or,and_self,true_and,and_true,false_and,and_false,if_true,if_false,false_eq_true,c0,c1,c2,dw,f0,f1,f2,f3,f4,f5,f6,f7,f8,f9,f10,f11,f12,f13,f14,f15,f16,f17,f18,f19,k1,k2,hd1,hhd,e0,e1,e2,e3])
 ·skip
  have f0:(((c.toNat:Int)<128)=False):=eq_false (by omega)
  have f1:((128≤(c.toNat:Int))=True):=eq_true (by omega)
  have f2:((c<128)=False):=eq_false λhh=>by have:=(iM c 128 (by omega)).1.1 hh;omega
  have f3:((128≤c)=True):=eq_true ((iM c 128 (by omega)).2.2 (by omega))
  have f4:(((c.toNat:Int)<194)=False):=eq_false (by omega)
  have f5:((194≤(c.toNat:Int))=True):=eq_true (by omega)
  have f6:((c<194)=False):=eq_false λhh=>by have:=(iM c 194 (by omega)).1.1 hh;omega
  have f7:((194≤c)=True):=eq_true ((iM c 194 (by omega)).2.2 (by omega))
  have f8:(((c.toNat:Int)<224)=False):=eq_false (by omega)
  have f9:((224≤(c.toNat:Int))=True):=eq_true (by omega)
  have f10:((c<224)=False):=eq_false λhh=>by have:=(iM c 224 (by omega)).1.1 hh;omega
  have f11:((224≤c)=True):=eq_true ((iM c 224 (by omega)).2.2 (by omega))
  have f12:(((c.toNat:Int)<240)=False):=eq_false (by omega)
  have f13:((240≤(c.toNat:Int))=True):=eq_true (by omega)
  have f14:((c<240)=False):=eq_false λhh=>by have:=(iM c 240 (by omega)).1.1 hh;omega
  have f15:((240≤c)=True):=eq_true ((iM c 240 (by omega)).2.2 (by omega))
  have f16:(((c.toNat:Int)<245)=True):=eq_true (by omega)
  have f17:((245≤(c.toNat:Int))=False):=eq_false (by omega)
  have f18:((c<245)=True):=eq_true ((iM c 245 (by omega)).1.2 (by omega))
  have f19:((245≤c)=False):=eq_false λhh=>by have:=(iM c 245 (by omega)).2.1 hh;omega
  cases k1:fK s (i+1)
  ·skip
   (conv=>arg 4;cbv);simp (maxSteps:=400000) only[↓aG,aH,BEq.rfl,seval,hg,↓dP,n1,n2,n3,z0,z1,z2,z3,i1,i2,i3,f0,f1,f2,f3,f4,f5,f6,f7,f8,f9,f10,f11,f12,f13,f14,f15,f16,f17,f18,f19,k1]
   exact hQ _ 0 rfl (by simp only[true_or,or_true,or_self,or_false,false_or,and_self,true_and,and_true,false_and,and_false,if_true,if_false,false_eq_true,c0,c1,c2,dw,f0,f1,f2,f3,f4,f5,f6,f7,f8,f9,f10,f11,f12,f13,f14,f15,f16,f17,f18,f19,k1])
  cases k2:fK s (i+2)
  ·skip
   (conv=>arg 4;cbv);simp (maxSteps:=400000) only[↓aG,aH,BEq.rfl,seval,hg,↓dP,n1,n2,n3,z0,z1,z2,z3,i1,i2,i3,f0,f1,f2,f3,f4,f5,f6,f7,f8,f9,f10,f11,f12,f13,f14,f15,f16,f17,f18,f19,k1,k2]
   exact hQ _ 0 rfl (by simp only[true_or,or_true,or_self,or_false,false_or,and_self,true_and,and_true,false_and,and_false,if_true,if_false,false_eq_true,c0,c1,c2,dw,f0,f1,f2,f3,f4,f5,f6,f7,f8,f9,f10,f11,f12,f13,f14,f15,f16,f17,f18,f19,k1,k2])
  cases k3:fK s (i+3)
  ·skip
   (conv=>arg 4;cbv);simp (maxSteps:=400000) only[↓aG,aH,BEq.rfl,seval,hg,↓dP,n1,n2,n3,z0,z1,z2,z3,i1,i2,i3,f0,f1,f2,f3,f4,f5,f6,f7,f8,f9,f10,f11,f12,f13,f14,f15,f16,f17,f18,f19,k1,k2,k3]
   exact hQ _ 0 rfl (by simp only[true_or,or_true,or_self,or_false,false_or,and_self,true_and,and_true,false_and,and_false,if_true,if_false,false_eq_true,c0,c1,c2,dw,f0,f1,f2,f3,f4,f5,f6,f7,f8,f9,f10,f11,f12,f13,f14,f15,f16,f17,f18,f19,k1,k2,k3])
  obtain⟨d,hd1⟩:=Dh k1
  have hhd:(List.drop (i+1) s).headD 0=d:=by rw[List.headD_eq_head?_getD,List.head?_drop,hd1];rfl
  by_cases hc240:c.toNat=240
  ·have TH:c.toNat≠244:=by omega
   have e0:(((c.toNat:Int)=240)=True):=eq_true (by omega)
   have e1:((c=240)=True):=eq_true (UInt8.toNat_inj.1 (by simpa using hc240))
   have e2:(((c.toNat:Int)=244)=False):=eq_false (by omega)
   have e3:((c=244)=False):=eq_false λhh=>TH (by rw[hh];rfl)
   by_cases hdl:d.toNat<144
   ·skip
    have g0:(((d.toNat:Int)<144)=True):=eq_true (by omega)
    have g1:((144≤(d.toNat:Int))=False):=eq_false (by omega)
    have g2:((d<144)=True):=eq_true ((iM d 144 (by omega)).1.2 (by omega))
    have g3:((144≤d)=False):=eq_false λhh=>by have:=(iM d 144 (by omega)).2.1 hh;omega
    (conv=>arg 4;cbv);simp (maxSteps:=400000) only[↓aG,aH,BEq.rfl,seval,hg,↓dP,n1,n2,n3,z0,z1,z2,z3,i1,i2,i3,f0,f1,f2,f3,f4,f5,f6,f7,f8,f9,f10,f11,f12,f13,f14,f15,f16,f17,f18,f19,k1,k2,k3,hd1,hhd,e0,e1,e2,e3,g0,g1,g2,g3]
    exact hQ _ 0 rfl (by simp only[true_or,or_true,or_self,or_false,false_or,and_self,true_and,and_true,false_and,and_false,if_true,if_false,false_eq_true,c0,c1,c2,dw,f0,f1,f2,f3,f4,f5,f6,f7,f8,f9,f10,f11,f12,f13,f14,f15,f16,f17,f18,f19,k1,k2,k3,hd1,hhd,e0,e1,e2,e3,g0,g1,g2,g3])
   ·skip
    have g0:(((d.toNat:Int)<144)=False):=eq_false (by omega)
    have g1:((144≤(d.toNat:Int))=True):=eq_true (by omega)
    have g2:((d<144)=False):=eq_false λhh=>by have:=(iM d 144 (by omega)).1.1 hh;omega
    have g3:((144≤d)=True):=eq_true ((iM d 144 (by omega)).2.2 (by omega))
    (conv=>arg 4;cbv);simp (maxSteps:=400000) only[↓aG,aH,BEq.rfl,seval,hg,↓dP,n1,n2,n3,z0,z1,z2,z3,i1,i2,i3,f0,f1,f2,f3,f4,f5,f6,f7,f8,f9,f10,f11,f12,f13,f14,f15,f16,f17,f18,f19,k1,k2,k3,hd1,hhd,e0,e1,e2,e3,g0,g1,g2,g3]
    exact hQ _ 4 rfl (by simp only[true_or,or_true,or_self,or_false,false_or,and_self,true_and,and_true,false_and,and_false,if_true,if_false,false_eq_true,c0,c1,c2,dw,f0,f1,f2,f3,f4,f5,f6,f7,f8,f9,f10,f11,f12,f13,f14,f15,f16,f17,f18,f19,k1,k2,k3,hd1,hhd,e0,e1,e2,e3,g0,g1,g2,g3])
  ·by_cases TH:c.toNat=244
   ·skip
    have e0:(((c.toNat:Int)=240)=False):=eq_false (by omega)
    have e1:((c=240)=False):=eq_false λhh=>hc240 (by rw[hh];rfl)
    have e2:(((c.toNat:Int)=244)=True):=eq_true (by omega)
    have e3:((c=244)=True):=eq_true (UInt8.toNat_inj.1 (by simpa using TH))
    by_cases hdl:d.toNat<144
    ·skip
     have g0:(((d.toNat:Int)<144)=True):=eq_true (by omega)
     have g1:((144≤(d.toNat:Int))=False):=eq_false (by omega)
     have g2:((d<144)=True):=eq_true ((iM d 144 (by omega)).1.2 (by omega))
     have g3:((144≤d)=False):=eq_false λhh=>by have:=(iM d 144 (by omega)).2.1 hh;omega
     (conv=>arg 4;cbv);simp (maxSteps:=400000) only[↓aG,aH,BEq.rfl,seval,hg,↓dP,n1,n2,n3,z0,z1,z2,z3,i1,i2,i3,f0,f1,f2,f3,f4,f5,f6,f7,f8,f9,f10,f11,f12,f13,f14,f15,f16,f17,f18,f19,k1,k2,k3,hd1,hhd,e0,e1,e2,e3,g0,g1,g2,g3]
     exact hQ _ 4 rfl (by simp only[true_or,or_true,or_self,or_false,false_or,and_self,true_and,and_true,false_and,and_false,if_true,if_false,false_eq_true,c0,c1,c2,dw,f0,f1,f2,f3,f4,f5,f6,f7,f8,f9,f10,f11,f12,f13,f14,f15,f16,f17,f18,f19,k1,k2,k3,hd1,hhd,e0,e1,e2,e3,g0,g1,g2,g3])
    ·skip
     have g0:(((d.toNat:Int)<144)=False):=eq_false (by omega)
     have g1:((144≤(d.toNat:Int))=True):=eq_true (by omega)
     have g2:((d<144)=False):=eq_false λhh=>by have:=(iM d 144 (by omega)).1.1 hh;omega
     have g3:((144≤d)=True):=eq_true ((iM d 144 (by omega)).2.2 (by omega))
     (conv=>arg 4;cbv);simp (maxSteps:=400000) only[↓aG,aH,BEq.rfl,seval,hg,↓dP,n1,n2,n3,z0,z1,z2,z3,i1,i2,i3,f0,f1,f2,f3,f4,f5,f6,f7,f8,f9,f10,f11,f12,f13,f14,f15,f16,f17,f18,f19,k1,k2,k3,hd1,hhd,e0,e1,e2,e3,g0,g1,g2,g3]
     exact hQ _ 0 rfl (by simp only[true_or,or_true,or_self,or_false,false_or,and_self,true_and,and_true,false_and,and_false,if_true,if_false,false_eq_true,c0,c1,c2,dw,f0,f1,f2,f3,f4,f5,f6,f7,f8,f9,f10,f11,f12,f13,f14,f15,f16,f17,f18,f19,k1,k2,k3,hd1,hhd,e0,e1,e2,e3,g0,g1,g2,g3])
   ·skip
    have e0:(((c.toNat:Int)=240)=False):=eq_false (by omega)
    have e1:((c=240)=False):=eq_false λhh=>hc240 (by rw[hh];rfl)
    have e2:(((c.toNat:Int)=244)=False):=eq_false (by omega)
    have e3:((c=244)=False):=eq_false λhh=>TH (by rw[hh];rfl)
    (conv=>arg 4;cbv);simp (maxSteps:=400000) only[↓aG,aH,BEq.rfl,seval,hg,↓dP,n1,n2,n3,z0,z1,z2,z3,i1,i2,i3,f0,f1,f2,f3,f4,f5,f6,f7,f8,f9,f10,f11,f12,f13,f14,f15,f16,f17,f18,f19,k1,k2,k3,hd1,hhd,e0,e1,e2,e3]
    exact hQ _ 4 rfl (by simp only[true_or,or_true,or_self,or_false,false_or,and_self,true_and,and_true,false_and,and_false,if_true,if_false,false_eq_true,c0,c1,c2,dw,f0,f1,f2,f3,f4,f5,f6,f7,f8,f9,f10,f11,f12,f13,f14,f15,f16,f17,f18,f19,k1,k2,k3,hd1,hhd,e0,e1,e2,e3])
 ·skip
  have f0:(((c.toNat:Int)<128)=False):=eq_false (by omega)
  have f1:((128≤(c.toNat:Int))=True):=eq_true (by omega)
  have f2:((c<128)=False):=eq_false λhh=>by have:=(iM c 128 (by omega)).1.1 hh;omega
  have f3:((128≤c)=True):=eq_true ((iM c 128 (by omega)).2.2 (by omega))
  have f4:(((c.toNat:Int)<194)=False):=eq_false (by omega)
  have f5:((194≤(c.toNat:Int))=True):=eq_true (by omega)
  have f6:((c<194)=False):=eq_false λhh=>by have:=(iM c 194 (by omega)).1.1 hh;omega
  have f7:((194≤c)=True):=eq_true ((iM c 194 (by omega)).2.2 (by omega))
  have f8:(((c.toNat:Int)<224)=False):=eq_false (by omega)
  have f9:((224≤(c.toNat:Int))=True):=eq_true (by omega)
  have f10:((c<224)=False):=eq_false λhh=>by have:=(iM c 224 (by omega)).1.1 hh;omega
  have f11:((224≤c)=True):=eq_true ((iM c 224 (by omega)).2.2 (by omega))
  have f12:(((c.toNat:Int)<240)=False):=eq_false (by omega)
  have f13:((240≤(c.toNat:Int))=True):=eq_true (by omega)
  have f14:((c<240)=False):=eq_false λhh=>by have:=(iM c 240 (by omega)).1.1 hh;omega
  have f15:((240≤c)=True):=eq_true ((iM c 240 (by omega)).2.2 (by omega))
  have f16:(((c.toNat:Int)<245)=False):=eq_false (by omega)
  have f17:((245≤(c.toNat:Int))=True):=eq_true (by omega)
  have f18:((c<245)=False):=eq_false λhh=>by have:=(iM c 245 (by omega)).1.1 hh;omega
  have f19:((245≤c)=True):=eq_true ((iM c 245 (by omega)).2.2 (by omega))
  (conv=>arg 4;cbv);simp (maxSteps:=400000) only[↓aG,aH,BEq.rfl,seval,hg,↓dP,n1,n2,n3,z0,z1,z2,z3,i1,i2,i3,f0,f1,f2,f3,f4,f5,f6,f7,f8,f9,f10,f11,f12,f13,f14,f15,f16,f17,f18,f19]
  exact hQ _ 0 rfl (by simp only[true_or,or_true,or_self,or_false,false_or,and_self,true_and,and_true,false_and,and_false,if_true,if_false,false_eq_true,c0,c1,c2,dw,f0,f1,f2,f3,f4,f5,f6,f7,f8,f9,f10,f11,f12,f13,f14,f15,f16,f17,f18,f19])
theorem Rx(s:List UInt8)(i:Int)(h0:0≤i)(hi:i.toNat<s.length)(hl:s.length≤4611686018427387904):av Tryz.prog 61 [.str s,.int .i64 i] [] (.int .i64 (dw (s.drop i.toNat):Nat)) []:=by
 have e:i=(i.toNat:Int):=by omega
 rw[e]
 exact Vh s i.toNat hi hl
def E_:d9:=λargs objs K=>match args with
 | [.str s,.int .i64 i]=>(0≤i)∧(i.toNat<s.length)∧(s.length≤4611686018427387904)∧K (.int .i64 (dw (s.drop i.toNat):Nat)) objs 0
 | _=>False
theorem Ry:aR Tryz.prog 61 (E_):=by
 intro args objs K h
 unfold E_ at h
 split at h
 ·rename_i s i
  obtain⟨h1,h2,h3,hk⟩:=h
  exact⟨_,_,_,.pure _ rfl (Rx s i h1 h2 h3),hk⟩
 ·exact h.elim
end Lp
namespace Lp
open Go Go.Proofs
theorem XB(s:List UInt8):dw s≤s.length:=by
 cases s with
 | nil=>simp[dw]
 | cons c t=>
  have h0:∀i,fK t i=true→i<t.length:=by
   intro i h
   obtain⟨d,hd⟩:=Dh h
   exact (List.getElem?_eq_some_iff.1 hd).1
  simp only[dw,List.length_cons]
  split
  ·omega
  ·split
   ·rename_i h;have:=h0 0 h.2.2;omega
   ·split
    ·rename_i h;have:=h0 1 h.2.2.2;split<;>omega
    ·split
     ·rename_i h;have:=h0 2 h.2.2.2.2;split<;>omega
     ·omega
theorem XC(s:List UInt8)(hl:s.length≤4611686018427387904):av Tryz.prog 37 [.str s] [] (.bool (utf s)) []:=by
 refine Dc.bR (T:=bA Tryz.prog [(61,E_)]) 0 hD (ay (af Ry au)) bE (by decide) λQ hQ=>?_
 (conv=>arg 4;cbv);simp (maxSteps:=400000) only[↓aG,aH,BEq.rfl,seval,hQ]
 refine aQ (λm S=>∃i:Nat,i+m=s.length∧Fx m (s.drop i)=utf s∧S=⟨dD 17 [(0,.str s),(3,.int .i64 i)],[]⟩) s.length ⟨0,by omega,rfl,?_⟩ ?_
 ·simp only[cB,keepR,Nat.reduceAdd,oO,Nat.reduceBEq,List.map_nil]
  rfl
 rintro m S ⟨i,him,hu,rfl⟩
 simp (maxSteps:=400000) only[↓aG,aH,BEq.rfl,seval,hQ,↓E_]
 have hle:=XB (s.drop i)
 simp only[List.length_drop]at hle
 refine⟨λh=>⟨by omega,by omega,hl,λh0=>?_,λh0=>⟨⟨by omega,by omega⟩,m-dw (s.drop i),by omega,i+dw (s.drop i),by omega,?_,by simp⟩⟩,λh=>?_⟩
 ·obtain⟨m,rfl⟩:∃k,m=k+1:=⟨m-1,by omega⟩
  have hne:(s.drop i).isEmpty=false:=by
   rw[List.isEmpty_eq_false_iff]
   intro he
   have:=congrArg List.length he
   simp at this;omega
  rw[←hu,Fx,hne]
  have:dw (s.drop i)=0:=by omega
  simp[this]
 ·obtain⟨m,rfl⟩:∃k,m=k+1:=⟨m-1,by omega⟩
  have hne:(s.drop i).isEmpty=false:=by
   rw[List.isEmpty_eq_false_iff]
   intro he
   have:=congrArg List.length he
   simp at this;omega
  rw[←hu]
  conv=>rhs;rw[Fx,hne]
  have h1:(dw (s.drop i) !=0)=true:=by simp;omega
  rw[h1,Bool.false_or,Bool.true_and,List.drop_drop]
  refine CF _ _ _ ?_ ?_
  ·simp;omega
  ·simp;omega
 ·rw[←hu]
  have hn:s.drop i=[]:=List.drop_eq_nil_of_le (by omega)
  rw[hn]
  cases m<;>rfl
def fo:d9:=λargs objs K=>match args with
 | [.str s]=>(s.length≤4611686018427387904)∧K (.bool (utf s)) objs 0
 | _=>False
theorem yc:aR Tryz.prog 37 (fo):=by
 intro args objs K h
 unfold fo at h
 split at h
 ·rename_i s
  obtain⟨h1,hk⟩:=h
  exact⟨_,_,_,.pure _ rfl (XC s h1),hk⟩
 ·exact h.elim
theorem LQ(s:List UInt8)(hl:s.length≤4611686018427387904):av Tryz.prog 85 [.str s] [] (.bool (vQ s)) []:=by
 refine wK.bR (T:=bA Tryz.prog []) 0 hD (ay au) bE (by decide) λQ hQ=>?_
 (conv=>arg 4;cbv);simp (maxSteps:=400000) only[↓aG,aH,BEq.rfl,seval,hQ]
 refine aQ (λm S=>∃i:Nat,i+m=s.length∧vQ (s.drop i)=vQ s∧S=⟨dD 20 [(0,.str s),(3,.int .i64 i)],[]⟩) s.length ⟨0,by omega,rfl,?_⟩ ?_
 ·simp only[cB,keepR,Nat.reduceAdd,oO,Nat.reduceBEq,List.map_nil]
  rfl
 rintro m S ⟨i,him,hu,rfl⟩
 rcases Nat.lt_or_ge i s.length with h | h
 ·have hg:=List.getElem?_eq_getElem h
  have hd:=List.drop_eq_getElem_cons h
  generalize s[i]=c at hg hd
  simp (maxSteps:=400000) only[↓aG,aH,BEq.rfl,seval,hQ,hg]
  have hf:vQ (c::s.drop (i+1))=(decide (48≤c) && decide (c≤57) && vQ (s.drop (i+1))):=by simp[vQ]
  rw[hd,hf]at hu
  refine⟨λ_=>⟨by omega,λh1=>?_,λh1=>⟨by omega,λh2=>?_,λh2=>⟨⟨by omega,by omega⟩,m-1,by omega,i+1,by omega,?_,by simp⟩⟩⟩,λh1=>absurd (by omega) h1⟩
  ·have:¬ (48≤c):=λh=>by have:=(iM c 48 (by omega)).2.1 h;omega
   rw[←hu];simp[this]
  ·have:¬ (c≤57):=λh=>by have:c.toNat≤(57:UInt8).toNat:=UInt8.le_iff_toNat_le.1 h;have h57:(57:UInt8).toNat=57:=rfl;omega
   rw[←hu];simp[this]
  ·have h3:48≤c:=(iM c 48 (by omega)).2.2 (by omega)
   have h4:c≤57:=UInt8.le_iff_toNat_le.2 (by have h57:(57:UInt8).toNat=57:=rfl;omega)
   rw[←hu];simp[h3,h4]
 ·simp (maxSteps:=400000) only[↓aG,aH,BEq.rfl,seval,hQ]
  refine⟨λh1=>absurd h1 (by omega),λ_=>?_⟩
  rw[←hu,List.drop_eq_nil_of_le h];rfl
def yg:d9:=λargs objs K=>match args with
 | [.str s]=>(s.length≤4611686018427387904)∧K (.bool (vQ s)) objs 0
 | _=>False
theorem Rz:aR Tryz.prog 85 (yg):=by
 intro args objs K h
 unfold yg at h
 split at h
 ·rename_i s
  obtain⟨h1,hk⟩:=h
  exact⟨_,_,_,.pure _ rfl (LQ s h1),hk⟩
 ·exact h.elim
theorem BL(n:Nd):AV n=true↔n.many=0∧vQ n.s=true∧n.s.length≤100∧-1000≤n.e∧n.e≤1000∧n.s.length+n.e≤1000∧
  (if n.s=[] then n.neg=false∧n.e=0 else n.s.head?≠some 48∧n.s.getLast?≠some 48):=by
 simp only[AV,Bool.and_eq_true,decide_eq_true_eq,beq_iff_eq,and_assoc]
 split<;>simp
theorem iF{b:Bool}(h:b=true→False):b=false:=by cases b<;>simp_all
theorem IZ(n:Nd)(hl:n.s.length≤4611686018427387904)(hk:n.kind=3)(hn:n.name=[]):av Tryz.prog 60 [aM n] [] (.bool (AV n)) []:=by
 refine Af.bR (T:=bA Tryz.prog [(85,yg)]) 0 hD (ay (af Rz au)) bE (by decide) λQ hQ=>?_
 (conv=>arg 4;cbv);simp (maxSteps:=400000) only[↓aG,aH,BEq.rfl,seval,hQ]
 refine bg _ (Weak.freeze 1 0 (Nat.le_refl _) _) ?_
 cases hf:vQ n.s
 ·simp (maxSteps:=400000) only[↓aG,aH,BEq.rfl,seval,hQ,qz,↓yg,hk,hn,hf]
  have:AV n=false:=iF λh=>by have:=((BL n).1 h).2.1;rw[hf]at this;cases this
  exact⟨λ_=>⟨hl,this⟩,λ_=>this⟩
 by_cases hs:n.s=[]
 ·simp (maxSteps:=400000) only[↓aG,aH,BEq.rfl,seval,hQ,qz,↓yg,hk,hn,hs]
  have hf0:vQ []=true:=rfl
  have key:=BL n
  rw[if_pos hs,hs]at key
  have hlz:(([]:List UInt8).length:Int)=0:=rfl
  simp only[hf0,ifR,hlz,Int.zero_add,List.length_nil]
  refine⟨λh0=>⟨λh=>iF λhb=>?_,λh1=>⟨λh=>iF λhb=>?_,λh2=>⟨⟨by omega,by omega⟩,λh=>iF λhb=>?_,λh3=>?_⟩⟩⟩,λh0=>iF λhb=>?_⟩
  ·have:=key.1 hb;omega
  ·have:=key.1 hb;omega
  ·have:=key.1 hb;omega
  ·refine⟨λhng=>iF λhb=>?_,λhng=>?_⟩
   ·have:=(key.1 hb).2.2.2.2.2.2.1;rw[hng]at this;cases this
   ·by_cases hz:n.e=0
    ·rw[decide_eq_true hz,key]
     exact⟨h0,hf0,by simp,by omega,by omega,by simp;omega,hng,hz⟩
    ·rw[decide_eq_false hz]
     exact iF λhb=>hz (key.1 hb).2.2.2.2.2.2.2
  ·have:=key.1 hb;omega
 ·obtain⟨c,t,hct⟩:∃c t,n.s=c::t:=by
    cases h:n.s with
    | nil=>exact absurd h hs
    | cons c t=>exact⟨c,t,rfl⟩
  have hlen:0<n.s.length:=by rw[hct];simp
  have g0:n.s[0]?=some c:=by rw[hct];rfl
  have g1:n.s[n.s.length-1]?=some (n.s[n.s.length-1]'(by omega)):=List.getElem?_eq_getElem (by omega)
  have t1:((n.s.length:Int)-1).toNat=n.s.length-1:=by omega
  have hl1:n.s.getLast?=some (n.s[n.s.length-1]'(by omega)):=by rw[List.getLast?_eq_getElem?,g1]
  have hh1:n.s.head?=some c:=by rw[hct];rfl
  generalize n.s[n.s.length-1]'(by omega)=d at g1 hl1
  have i1:(-9223372036854775808≤(n.s.length:Int)-1∧(n.s.length:Int)-1≤9223372036854775807)=True:=eq_true ⟨by omega,by omega⟩
  have z1:(0≤(n.s.length:Int)-1)=True:=eq_true (by omega)
  simp (maxSteps:=400000) only[↓aG,aH,BEq.rfl,seval,hQ,qz,↓yg,hk,hn,hs,hf,g0,t1,g1,i1,z1]
  have key:=BL n
  rw[if_neg hs,hh1,hl1]at key
  have e48:∀x:UInt8,x=48↔x.toNat=48:=λx=>⟨λh=>by rw[h];rfl,λh=>UInt8.toNat_inj.1 (by simpa using h)⟩
  refine⟨λh0=>⟨hl,λh=>iF λhb=>?_,λh1=>⟨λh=>iF λhb=>?_,λh2=>⟨λh=>iF λhb=>?_,λh3=>⟨⟨by omega,by omega⟩,λh=>iF λhb=>?_,λh4=>⟨λh=>iF λhb=>?_,λh5=>?_⟩⟩⟩⟩⟩,λh0=>iF λhb=>?_⟩
  ·have:=key.1 hb;omega
  ·have:=key.1 hb;omega
  ·have:=key.1 hb;omega
  ·have:=key.1 hb;omega
  ·refine (key.1 hb).2.2.2.2.2.2.1 ?_
   rw[(e48 c).2 (by omega)]
  ·by_cases hz:d.toNat=48
   ·have hz':(d.toNat:Int)=48:=by omega
    rw[decide_eq_true hz']
    refine iF λhb=>(key.1 hb).2.2.2.2.2.2.2 ?_
    rw[(e48 d).2 hz]
   ·have hz':¬ (d.toNat:Int)=48:=by omega
    rw[decide_eq_false hz',Bool.not_false,key]
    refine⟨h0,hf,by omega,by omega,by omega,by omega,λh=>?_,λh=>?_⟩
    ·have:=(e48 c).1 (by simpa using h);omega
    ·exact hz ((e48 d).1 (by simpa using h))
  ·exact h0 (key.1 hb).1
def eT:d9:=λargs objs K=>match args with
 | [a0]=>gD aM a0 (HK.mk:HK λn=>(n.s.length≤4611686018427387904)∧(n.kind=3)∧(n.name=[])∧K (.bool (AV n)) objs 0)
 | _=>False
theorem GA:aR Tryz.prog 60 (eT):=by
 intro args objs K h
 unfold eT at h
 split at h
 ·rename_i a0
  obtain⟨n,rfl,h1,h2,h3,hk⟩:=h
  exact⟨_,_,_,.pure _ rfl (IZ n h1 h2 h3),hk⟩
 ·exact h.elim
end Lp
namespace Lp
open Go Go.Proofs
def sM(v:Vl)(i:Nat):Int:=match mZ v.length (v.drop i) 1 with
 | some c=>(i+c:Nat)
 | none=>-1
theorem Ak{v:Vl}{i:Nat}(h:(mZ v.length (v.drop i) 1).map (λc=>i+c)=none):sM v i=-1:=by
 unfold sM
 cases hx:mZ v.length (v.drop i) 1 with
 | none=>rfl
 | some c=>rw[hx]at h;simp at h
theorem GD{v:Vl}{i j:Nat}(h:(mZ v.length (v.drop i) 1).map (λc=>i+c)=some j):sM v i=j:=by
 unfold sM
 cases hx:mZ v.length (v.drop i) 1 with
 | none=>rw[hx]at h;simp at h
 | some c=>rw[hx]at h;simp only[Option.map_some,Option.some.injEq]at h;rw[←h]
theorem BM(L:Nat)(v:Vl):mZ L v 0=some 0:=by cases v<;>rfl
theorem Vi(v:Vl)(i:Nat)(hi:i≤v.length)(hl:v.length≤1000000):av Tryz.prog 34 [aj v,.int .i64 i] [] (.int .i64 (sM v i)) []:=by
 refine BB.bR (T:=bA Tryz.prog []) 0 hD (ay au) bE (by decide) λQ hQ=>?_
 (conv=>arg 4;cbv);simp (maxSteps:=400000) only[↓aG,aH,BEq.rfl,seval,hQ]
 refine aQ (λm S=>∃j k:Nat,j+m=v.length∧k≤1+j*1000000∧(mZ v.length (v.drop i) 1).map (λc=>i+c)=(mZ v.length (v.drop j) k).map (λc=>j+c)∧
  S=⟨dD 41 [(0,aj v),(1,.int .i64 j),(5,.int .i64 k)],[]⟩) (v.length-i) ⟨i,1,by omega,by omega,rfl,?_⟩ ?_
 ·simp only[cB,keepR,Nat.reduceAdd,oO,Nat.reduceBEq,List.map_nil]
  rfl
 rintro m S ⟨j,k,hjm,hk,hn,rfl⟩
 rcases Nat.lt_or_ge j v.length with h | h
 ·have hg:=List.getElem?_eq_getElem h
  have hd:=List.drop_eq_getElem_cons h
  generalize v[j]=n at hg hd
  simp (maxSteps:=400000) only[↓aG,aH,BEq.rfl,seval,hQ,hg]
  refine⟨λhk0=>⟨λh'=>absurd h' (by omega),λ_=>⟨by omega,λhm=>?_,λhm=>⟨by omega,λhm2=>?_,λhm2=>?_⟩⟩⟩,λhk0=>?_⟩
  ·obtain⟨k,rfl⟩:∃q,k=q+1:=⟨k-1,by omega⟩
   rw[hd,mZ,if_pos (.inl hm)]at hn
   rw[Ak hn]
  ·obtain⟨k,rfl⟩:∃q,k=q+1:=⟨k-1,by omega⟩
   rw[hd,mZ,if_pos (.inr hm2)]at hn
   rw[Ak hn]
  ·obtain⟨k,rfl⟩:∃q,k=q+1:=⟨k-1,by omega⟩
   rw[hd,mZ,if_neg (by omega)]at hn
   have hk2:(((k+1:Nat):Int)-1+n.many)=((k+n.many.toNat:Nat):Int):=by omega
   refine⟨⟨by omega,by omega⟩,by omega,⟨by omega,by omega⟩,⟨by omega,by omega⟩,m-1,by omega,j+1,k+n.many.toNat,by omega,by omega,?_,?_⟩
   ·rw[hn]
    cases mZ v.length (v.drop (j+1)) (k+n.many.toNat) with
    | none=>rfl
    | some c=>simp;omega
   ·rw[hk2];rfl
  ·have hk1:k=0:=by omega
   subst hk1
   rw[BM]at hn
   rw[GD (j:=j) (by simpa using hn)]
 ·simp (maxSteps:=400000) only[↓aG,aH,BEq.rfl,seval,hQ]
  refine⟨λhk0=>⟨λ_=>?_,λh'=>absurd (by omega) h'⟩,λhk0=>?_⟩
  ·obtain⟨k,rfl⟩:∃q,k=q+1:=⟨k-1,by omega⟩
   rw[List.drop_eq_nil_of_le h]at hn
   simp only[mZ,Option.map_none]at hn
   rw[Ak hn]
  ·have hk1:k=0:=by omega
   subst hk1
   rw[BM]at hn
   rw[GD (j:=j) (by simpa using hn)]
theorem RA(v:Vl)(i:Int)(h0:0≤i)(hi:i.toNat≤v.length)(hl:v.length≤1000000):av Tryz.prog 34 [aj v,.int .i64 i] [] (.int .i64 (sM v i.toNat)) []:=by
 have e:i=(i.toNat:Int):=by omega
 rw[e]
 exact Vi v i.toNat hi hl
def iw:d9:=λargs objs K=>match args with
 | [a0,.int .i64 i]=>gD aj a0 (HK.mk:HK λv=>(0≤i)∧(i.toNat≤v.length)∧(v.length≤1000000)∧K (.int .i64 (sM v i.toNat)) objs 0)
 | _=>False
theorem uK:aR Tryz.prog 34 (iw):=by
 intro args objs K h
 unfold iw at h
 split at h
 ·rename_i a0 i
  obtain⟨v,rfl,h1,h2,h3,hk⟩:=h
  exact⟨_,_,_,.pure _ rfl (RA v i h1 h2 h3),hk⟩
 ·exact h.elim
end Lp
namespace Lp
open Go Go.Proofs
open Int (reduceEq)
theorem RB(n:Nd)(hl:n.s.length≤4611686018427387904):av Tryz.prog 35 [aM n] [] (.bool (bM n)) []:=by
 refine Ae.bR (T:=bA Tryz.prog [(37,fo),(60,eT)]) 0 hD (ay (af yc (af GA au))) bE (by decide) λQ hQ=>?_
 have h8:n.kind=0∨n.kind=1∨n.kind=2∨n.kind=3∨n.kind=4∨n.kind=5∨n.kind=6∨(n.kind≠0∧n.kind≠1∧n.kind≠2∧n.kind≠3∧n.kind≠4∧n.kind≠5∧n.kind≠6):=by omega
 rcases h8 with hk | hk | hk | hk | hk | hk | hk | ⟨k0,k1,k2,k3,k4,k5,k6⟩
 ·(conv=>arg 4;cbv);simp (maxSteps:=400000) only[↓aG,aH,BEq.rfl,seval,hQ,↓fo,↓eT,hk,reduceEq]
  rw[Bool.eq_iff_iff]
  simp[bM,hk,and_assoc]
 ·(conv=>arg 4;cbv);simp (maxSteps:=400000) only[↓aG,aH,BEq.rfl,seval,hQ,↓fo,↓eT,hk,reduceEq]
  rw[Bool.eq_iff_iff]
  simp[bM,hk,and_assoc]
 ·(conv=>arg 4;cbv);simp (maxSteps:=400000) only[↓aG,aH,BEq.rfl,seval,hQ,↓fo,↓eT,hk,reduceEq]
  rw[Bool.eq_iff_iff]
  simp[bM,hk,and_assoc]
 ·(conv=>arg 4;cbv);simp (maxSteps:=400000) only[↓aG,aH,BEq.rfl,seval,hQ,↓fo,↓eT,hk,reduceEq]
  refine⟨hl,?_⟩
  simp[bM,hk,AV]
 ·(conv=>arg 4;cbv);simp (maxSteps:=400000) only[↓aG,aH,BEq.rfl,seval,hQ,↓fo,↓eT,hk,reduceEq]
  refine⟨hl,?_⟩
  cases hu:utf n.s
  ·simp[Aa,bM,hk,hu]
  ·simp only[ifR]
   rw[Bool.eq_iff_iff]
   simp[bM,hk,hu,and_assoc]
 ·(conv=>arg 4;cbv);simp (maxSteps:=400000) only[↓aG,aH,BEq.rfl,seval,hQ,↓fo,↓eT,hk,reduceEq]
  refine⟨λhm=>?_,λhm=>?_⟩
  ·rw[Bool.eq_iff_iff]
   simp[bM,hk,hm,and_assoc]
  ·simp[bM,hk,hm]
 ·(conv=>arg 4;cbv);simp (maxSteps:=400000) only[↓aG,aH,BEq.rfl,seval,hQ,↓fo,↓eT,hk,reduceEq]
  refine⟨λhm=>?_,λhm=>?_⟩
  ·rw[Bool.eq_iff_iff]
   simp[bM,hk,hm,and_assoc]
  ·simp[bM,hk,hm]
 ·(conv=>arg 4;cbv);simp (maxSteps:=400000) only[↓aG,aH,BEq.rfl,seval,hQ,↓fo,↓eT,k0,k1,k2,k3,k4,k5,k6]
  simp[bM,k0,k1,k2,k3,k4,k5,k6]
def sN:d9:=λargs objs K=>match args with
 | [a0]=>gD aM a0 (HK.mk:HK λn=>(n.s.length≤4611686018427387904)∧K (.bool (bM n)) objs 0)
 | _=>False
theorem Oy:aR Tryz.prog 35 (sN):=by
 intro args objs K h
 unfold sN at h
 split at h
 ·rename_i a0
  obtain⟨n,rfl,h1,hk⟩:=h
  exact⟨_,_,_,.pure _ rfl (RB n h1),hk⟩
 ·exact h.elim
end Lp
namespace Lp
open Go Go.Proofs
def Al(kind:Int)(name:List UInt8):List Vl→Bool
 | []=>true
 | q::_=>kind !=6 || Op.bytesLess name (nameOf q)
structure Small (v:Vl):Prop where
 len:v.length≤1000000
 txt:∀n∈v,n.s.length≤4611686018427387904∧n.name.length≤4611686018427387904
theorem Di(L:Nat):∀(v:Vl) (j k c:Nat),mZ L v (j+k)=some c→∃c1 c2,mZ L v j=some c1∧mZ L (v.drop c1) k=some c2∧c=c1+c2
 | v,0,k,c,h=>⟨0,c,BM L v,by simpa using h,by simp⟩
 | [],j+1,k,c,h=>by
  rw[show j+1+k=(j+k)+1 by omega]at h
  simp[mZ]at h
 | n::v,j+1,k,c,h=>by
  rw[show j+1+k=(j+k)+1 by omega,mZ]at h
  split at h
  ·cases h
  ·rename_i hn
   cases hs:mZ L v (j+k+n.many.toNat) with
   | none=>rw[hs]at h;simp at h
   | some c'=>
    rw[hs]at h
    simp only[Option.map_some,Option.some.injEq]at h
    rw[show j+k+n.many.toNat=(j+n.many.toNat)+k by omega]at hs
    obtain⟨c1,c2,h1,h2,rfl⟩:=Di L v _ k c' hs
    refine⟨c1+1,c2,?_,by simpa using h2,by omega⟩
    rw[mZ,if_neg hn,h1];rfl
theorem BN{v:Vl}{i c:Nat}(h:mZ v.length (v.drop i) 1=some c):sM v i=(i+c:Nat):=by
 simp only[sM,h]
theorem Oz(v:Vl)(at':Nat)(n:Nd)(c:Nat)(hs:Small v)(hat:v[at']?=some n)(hm:0≤n.many)(hc:mZ v.length (v.drop (at'+1)) n.many.toNat=some c)(ps:List Vl)(hps:parts n.many.toNat (v.drop (at'+1))=some ps) :
  av Tryz.prog 36 [aj v,.int .i64 at'] [] (.bool (kL n.kind ps)) []:=by
 obtain⟨hl,htx⟩:=hs
 have aeS:=(List.getElem?_eq_some_iff.1 hat).1
 have hpl:=dW _ _ _ hps
 have ZI:=iY _ _ _ hps
 simp only[List.length_drop]at ZI
 refine yT.bR (T:=bA Tryz.prog [(37,fo),(34,iw)]) 0 hD (ay (af yc (af uK au))) bE (by decide) λQ hQ=>?_
 (conv=>arg 4;cbv);simp (maxSteps:=400000) only[↓aG,aH,BEq.rfl,seval,hQ]
 refine⟨⟨by omega,by omega⟩,?_⟩
 refine aQ (λm S=>∃(i c':Nat) (rest:List Vl),m=rest.length∧rest.length≤ps.length∧parts rest.length (v.drop i)=some rest∧mZ v.length (v.drop i) rest.length=some c'∧kL n.kind rest=kL n.kind ps∧
  S=⟨dD 75 [(0,aj v),(1,.int .i64 at'),(5,.int .i64 i),(6,.int .i64 ((ps.length:Int)-rest.length))],[]⟩) ps.length ⟨at'+1,c,ps,rfl,Nat.le_refl _,by rw[hpl];exact hps,by rw[hpl];exact hc,rfl,?_⟩ ?_
 ·simp only[cB,keepR,Nat.reduceAdd,oO,Nat.reduceBEq,List.map_nil]
  simp
 rintro m S ⟨i,c',rest,rfl,hrl,hrp,hrn,hrb,rfl⟩
 have hmn:n.many=(ps.length:Int):=by omega
 have z0:(0≤(at':Int))=True:=eq_true (by omega)
 have zi:(0≤(i:Int))=True:=eq_true (by omega)
 cases rest with
 | nil=>
  simp (maxSteps:=400000) only[↓aG,aH,BEq.rfl,seval,hQ,hat,hmn,z0]
  refine⟨λh=>absurd h (by simp),λ_=>?_⟩
  rw[←hrb];rfl
 | cons p qs=>
  obtain⟨pc,qs',h1,h2,h3⟩:=gV (k:=qs.length) hrp
  simp only[List.cons.injEq]at h2
  obtain⟨rfl,rfl⟩:=h2
  have hpc:=gH _ _ _ h1
  simp only[List.length_drop]at hpc
  have hil:i<v.length:=by omega
  have hgi:=List.getElem?_eq_getElem hil
  have hdi:=List.drop_eq_getElem_cons hil
  have OA:=htx _ (List.getElem_mem hil)
  generalize v[i]=pn at hgi hdi OA
  have hname:nameOf (List.take pc (v.drop i))=pn.name:=by
   obtain⟨q,hq⟩:∃q,pc=q+1:=⟨pc-1,by omega⟩
   rw[hdi,hq];rfl
  obtain⟨c1,c2,e1,e2,e3⟩:=Di v.length (v.drop i) 1 qs.length c' (by rw[Nat.add_comm];exact hrn)
  have hcc:c1=pc:=by
   have:=rV _ _ _ _ e1
   rw[h1]at this
   exact (Option.some.inj this).symm
  subst hcc
  have hnx:=BN e1
  simp only[List.length_cons]at hrl
  have ht1:((i+c1:Nat):Int).toNat=i+c1:=by omega
  have h3':parts qs.length (v.drop (i+c1))=some qs:=by rw[←List.drop_drop];exact h3
  have e2':mZ v.length (v.drop (i+c1)) qs.length=some c2:=by rw[←List.drop_drop];exact e2
  have hun:∀x:Bool,Al n.kind pn.name qs=x→kL n.kind (List.take c1 (v.drop i)::qs)=((n.kind !=5 || pn.name==[]) && utf pn.name && x && kL n.kind qs):=by
   intro x hx
   rw[←hx]
   cases qs<;>simp only[kL,Al,hname]
  have Vj:((ps.length:Int)-((qs.length+1:Nat):Int)<(ps.length:Int))=True:=eq_true (by omega)
  cases hu:utf pn.name
  ·have hfin:kL n.kind ps=false:=by rw[←hrb,hun _ rfl,hu];simp
   simp (maxSteps:=400000) only[↓aG,aH,BEq.rfl,seval,hQ,hat,hmn,z0,zi,hgi,↓fo,↓iw,hnx,hu,Vj,hfin]
   exact⟨λ_ _=>OA.2,λ_=>OA.2⟩
  by_cases h5:n.kind=5∧pn.name≠[]
  ·have hfin:kL n.kind ps=false:=by rw[←hrb,hun _ rfl];simp[h5.1,h5.2]
   simp (maxSteps:=400000) only[↓aG,aH,BEq.rfl,seval,hQ,hat,hmn,z0,zi,hgi,↓fo,↓iw,hnx,hu,Vj,h5.1,h5.2]
   rw[←h5.1];exact hfin
  have hc5:(n.kind !=5 || pn.name==[])=true:=by
   by_cases hk:n.kind=5
   ·have:pn.name=[]:=Decidable.of_not_not λh=>h5 ⟨hk,h⟩
    simp[this]
   ·simp[hk]
  rw[hc5,hu]at hun
  have good:n.kind=5→pn.name=[]:=λhk=>Decidable.of_not_not λh=>h5 ⟨hk,h⟩
  have hlt1:(-9223372036854775808≤(ps.length:Int)-((qs.length+1:Nat):Int)+1∧(ps.length:Int)-((qs.length+1:Nat):Int)+1≤9223372036854775807)=True:=eq_true ⟨by omega,by omega⟩
  have hiv:i≤v.length:=by omega
  have e:(ps.length:Int)-((qs.length+1:Nat):Int)+1=(ps.length:Int)-qs.length:=by omega
  have l1:qs.length<qs.length+1:=Nat.lt_succ_self _
  have l2:qs.length≤ps.length:=by omega
  have zc:(0≤((i+c1:Nat):Int))=True:=eq_true (by omega)
  have step:Al n.kind pn.name qs=true→∃m',m'<qs.length+1∧∃(i_1 c':Nat) (rest:List Vl),m'=rest.length∧rest.length≤ps.length∧parts rest.length (v.drop i_1)=some rest∧mZ v.length (v.drop i_1) rest.length=some c'∧kL n.kind rest=kL n.kind ps∧
      (⟨dD 75 [(0,aj v),(1,.int .i64 at'),(5,.int .i64 (i+c1:Nat)),(6,.int .i64 ((ps.length:Int)-((qs.length+1:Nat):Int)+1))],[]⟩:St)=⟨dD 75 [(0,aj v),(1,.int .i64 at'),(5,.int .i64 i_1),(6,.int .i64 ((ps.length:Int)-rest.length))],[]⟩:=by
   intro hx
   refine⟨qs.length,l1,i+c1,c2,qs,rfl,l2,h3',e2',?_,?_⟩
   ·rw[←hrb,hun true hx];simp
   ·rw[e]
  have stop:Al n.kind pn.name qs=false→kL n.kind ps=false:=λhx=>by rw[←hrb,hun false hx];simp
  by_cases h6:n.kind=6
  ·have h5':¬ n.kind=5:=by omega
   rcases Nat.eq_zero_or_pos qs.length with hq0 | hqp
   ·have hq:qs=[]:=List.length_eq_zero_iff.1 hq0
    have hlast:((ps.length:Int)-((qs.length+1:Nat):Int)+1<(ps.length:Int))=False:=eq_false (by omega)
    have hst:=step (by rw[hq];rfl)
    simp (maxSteps:=400000) only[↓aG,aH,BEq.rfl,seval,hQ,hat,hmn,z0,zi,hgi,↓fo,↓iw,hnx,hu,Vj,h6,Int.reduceEq,hlt1,hlast]
    simp only[h6]at hst
    exact⟨OA.2,hiv,hl,hst⟩
   ·obtain⟨q,r,hqr⟩:∃q r,qs=q::r:=by
      cases qs with
      | nil=>simp at hqp
      | cons q r=>exact⟨q,r,rfl⟩
    have hmore:((ps.length:Int)-((qs.length+1:Nat):Int)+1<(ps.length:Int))=True:=eq_true (by omega)
    have g0:=h3'
    rw[hqr]at g0
    obtain⟨pc2,qs2,g1,g2,g3⟩:=gV (k:=r.length) g0
    simp only[List.cons.injEq]at g2
    have aew:=gH _ _ _ g1
    simp only[List.length_drop]at aew
    have adq:i+c1<v.length:=by omega
    have abX:=List.getElem?_eq_getElem adq
    have abY:=List.drop_eq_getElem_cons adq
    generalize v[i+c1]=qn at abX abY
    have XD:nameOf q=qn.name:=by
     obtain⟨w,hw⟩:∃w,pc2=w+1:=⟨pc2-1,by omega⟩
     rw[g2.1,abY,hw];rfl
    have hno:Al n.kind pn.name qs=Op.bytesLess pn.name qn.name:=by
     rw[hqr,Al,XD];simp[h6]
    clear g0 g1 g2 g3 hqr XD abY hdi
    cases hbl:Op.bytesLess pn.name qn.name
    ·have hfin:=stop (by rw[hno,hbl])
     simp (maxSteps:=400000) only[↓aG,aH,BEq.rfl,seval,hQ,hat,hmn,z0,zi,hgi,↓fo,↓iw,hnx,hu,Vj,h6,Int.reduceEq,hlt1,hmore,zc,ht1,abX,hbl]
     rw[h6]at hfin
     exact⟨OA.2,hiv,hl,hfin⟩
    ·have hst:=step (by rw[hno,hbl])
     simp (maxSteps:=400000) only[↓aG,aH,BEq.rfl,seval,hQ,hat,hmn,z0,zi,hgi,↓fo,↓iw,hnx,hu,Vj,h6,Int.reduceEq,hlt1,hmore,zc,ht1,abX,hbl]
     simp only[h6]at hst
     exact⟨OA.2,hiv,hl,hst⟩
  ·have hst:=step (by cases qs<;>simp[Al,h6])
   simp (maxSteps:=400000) only[↓aG,aH,BEq.rfl,seval,hQ,hat,hmn,z0,zi,hgi,↓fo,↓iw,hnx,hu,Vj,h6,hlt1]
   exact⟨λh5'=>⟨λ_=>⟨OA.2,hiv,hl,hst⟩,λhne=>absurd (good h5') hne⟩,λ_=>⟨OA.2,hiv,hl,hst⟩⟩
end Lp
namespace Lp
open Go Go.Proofs
theorem XE(L:Nat):∀(v:Vl) (k c i:Nat),mZ L v k=some c→i<c→∃k' c',mZ L (v.drop i) (k'+1)=some c'
 | v,0,c,i,h,hi=>by rw[BM]at h;cases h;omega
 | [],k+1,c,i,h,hi=>by simp[mZ]at h
 | n::v,k+1,c,0,h,hi=>⟨k,c,by simpa using h⟩
 | n::v,k+1,c,i+1,h,hi=>by
  rw[mZ]at h
  split at h
  ·cases h
  ·cases hs:mZ L v (k+n.many.toNat) with
   | none=>rw[hs]at h;simp at h
   | some c'=>
    rw[hs]at h
    simp only[Option.map_some,Option.some.injEq]at h
    simpa using XE L v _ c' i hs (by omega)
def Dj(v:Vl)(i:Nat):Bool:=match v.drop i with
 | n::r=>(match parts n.many.toNat r with | some ps=>kL n.kind ps | none=>false)
 | []=>true
theorem RD{v:Vl}{i:Nat}{n:Nd}(hi:v[i]?=some n):ny (v.drop i)=(bM n && Dj v i && ny (v.drop (i+1))):=by
 have hl:=(List.getElem?_eq_some_iff.1 hi).1
 have hd:=List.drop_eq_getElem_cons hl
 rw[List.getElem?_eq_getElem hl]at hi
 cases hi
 simp only[Dj,hd,ny]
 rfl
theorem OB(v:Vl)(i:Int)(h0:0≤i)(hi:i.toNat<v.length)(hs:Small v)(hn:mZ v.length v 1=some v.length) :
  av Tryz.prog 36 [aj v,.int .i64 i] [] (.bool (Dj v i.toNat)) []:=by
 obtain⟨i,rfl⟩:∃k:Nat,i=k:=⟨i.toNat,by omega⟩
 simp only[Int.toNat_natCast]at hi ⊢
 have hg:=List.getElem?_eq_getElem hi
 have hd:=List.drop_eq_getElem_cons hi
 generalize v[i]=n at hg hd
 obtain⟨k',c',h'⟩:=XE v.length v 1 _ i hn hi
 rw[Nat.add_comm]at h'
 obtain⟨c1,_,h1,_,_⟩:=Di v.length _ 1 k' c' h'
 rw[hd,mZ]at h1
 split at h1
 ·cases h1
 ·rename_i hm
  cases hx:mZ v.length (v.drop (i+1)) (0+n.many.toNat) with
  | none=>rw[hx]at h1;simp at h1
  | some c=>
   rw[Nat.zero_add]at hx
   obtain⟨ps,hp,_,_⟩:=fE _ _ _ (rV _ _ _ _ hx)
   have:=Oz v i n c hs hg (by omega) hx ps hp
   simp only[Dj,hd,hp]
   exact this
def p8:d9:=λargs objs K=>match args with
 | [a0,.int .i64 i]=>gD aj a0 (HK.mk:HK λv=>(0≤i)∧(i.toNat<v.length)∧(Small v)∧(mZ v.length v 1=some v.length)∧K (.bool (Dj v i.toNat)) objs 0)
 | _=>False
theorem LU:aR Tryz.prog 36 (p8):=by
 intro args objs K h
 unfold p8 at h
 split at h
 ·rename_i a0 i
  obtain⟨v,rfl,h1,h2,h3,h4,hk⟩:=h
  exact⟨_,_,_,.pure _ rfl (OB v i h1 h2 h3 h4),hk⟩
 ·exact h.elim
theorem RF(v:Vl)(hs:Small v):av Tryz.prog 19 [aj v] [] (.bool (bX v)) []:=by
 have hl:=hs.len
 refine Ab.bR (T:=bA Tryz.prog [(34,iw),(35,sN),(36,p8)]) 0 hD (ay (af uK (af Oy (af LU au)))) bE (by decide) λQ hQ=>?_
 rcases Nat.eq_zero_or_pos v.length with hv | hv
 ·have hr:bX v=false:=by
    have:v=[]:=List.length_eq_zero_iff.1 hv
    rw[this];rfl
  have hv':((v.length:Int)=0)=True:=eq_true (by omega)
  (conv=>arg 4;cbv);simp (maxSteps:=400000) only[↓aG,aH,BEq.rfl,seval,hQ,hr,hv']
 have hv':((v.length:Int)=0)=False:=eq_false (by omega)
 obtain⟨n0,r0,hvr⟩:∃n r,v=n::r:=by
  cases v with
  | nil=>simp at hv
  | cons n r=>exact⟨n,r,rfl⟩
 have hg0:v[0]?=some n0:=by rw[hvr];rfl
 have hnm:nameOf v=n0.name:=by rw[hvr];rfl
 have hne:v.isEmpty=false:=by rw[hvr];rfl
 by_cases hname:n0.name=[]
 rotate_left 1
 ·have hr:bX v=false:=by simp[bX,hnm,hname]
  (conv=>arg 4;cbv);simp (maxSteps:=400000) only[↓aG,aH,BEq.rfl,seval,hQ,hr,hv',hg0,hname]
 have hz:Int.toNat 0=0:=rfl
 by_cases hnx:sM v 0=(v.length:Int)
 rotate_left 1
 ·have hr:bX v=false:=by
    have:mZ v.length v 1≠some v.length:=λh=>hnx (by rw[BN (i:=0) (by simpa using h)];simp)
    simp[bX,this]
  (conv=>arg 4;cbv);simp (maxSteps:=400000) only[↓aG,aH,BEq.rfl,seval,hQ,hr,hv',hg0,hname,↓iw,hnx]
  exact⟨by omega,hl⟩
 have hn:mZ v.length v 1=some v.length:=by
  unfold sM at hnx
  rw[List.drop_zero]at hnx
  cases hx:mZ v.length v 1 with
  | none=>rw[hx]at hnx;simp only at hnx;omega
  | some c=>rw[hx]at hnx;simp only at hnx;congr 1;omega
 have hr:bX v=ny v:=by simp[bX,hnm,hname,hn,hne]
 (conv=>arg 4;cbv);simp (maxSteps:=400000) only[↓aG,aH,BEq.rfl,seval,hQ,hv',hg0,hname,↓iw,hnx]
 refine⟨by omega,hl,?_⟩
 refine aQ (λm S=>∃i:Nat,i+m=v.length∧ny (v.drop i)=ny v∧S=⟨dD 39 [(0,aj v),(3,.int .i64 i)],[]⟩) v.length ⟨0,by omega,rfl,?_⟩ ?_
 ·simp only[cB,keepR,Nat.reduceAdd,oO,Nat.reduceBEq,List.map_nil]
  rfl
 rintro m S ⟨i,him,hgd,rfl⟩
 rcases Nat.lt_or_ge i v.length with h | h
 ·have hg:=List.getElem?_eq_getElem h
  have htx:=hs.txt _ (List.getElem_mem h)
  generalize v[i]=n at hg htx
  have hd:=RD hg
  rw[hgd]at hd
  have zi:(0≤(i:Int))=True:=eq_true (by omega)
  have hlt:((i:Int)<(v.length:Int))=True:=eq_true (by omega)
  cases hp:bM n
  ·have hr2:bX v=false:=by rw[hr,hd,hp];rfl
   simp (maxSteps:=400000) only[↓aG,aH,BEq.rfl,seval,hQ,hg,↓sN,↓p8,hp,zi,hlt,hr2]
   exact htx.1
  cases hq:Dj v i
  ·have hr2:bX v=false:=by rw[hr,hd,hp,hq];rfl
   simp (maxSteps:=400000) only[↓aG,aH,BEq.rfl,seval,hQ,hg,↓sN,↓p8,hp,hq,zi,hlt,hr2]
   exact⟨htx.1,h,hs,hn⟩
  ·simp (maxSteps:=400000) only[↓aG,aH,BEq.rfl,seval,hQ,hg,↓sN,↓p8,hp,hq,zi,hlt]
   refine⟨htx.1,h,hs,hn,⟨by omega,by omega⟩,m-1,by omega,i+1,by omega,?_,by simp⟩
   rw[hd,hp,hq];simp
 ·have hlt:((i:Int)<(v.length:Int))=False:=eq_false (by omega)
  simp (maxSteps:=400000) only[↓aG,aH,BEq.rfl,seval,hQ,hlt]
  rw[hr,←hgd,List.drop_eq_nil_of_le h];rfl
def BO:d9:=λargs objs K=>match args with
 | [a0]=>gD aj a0 (HK.mk:HK λv=>(Small v)∧K (.bool (bX v)) objs 0)
 | _=>False
theorem OC:aR Tryz.prog 19 (BO):=by
 intro args objs K h
 unfold BO at h
 split at h
 ·rename_i a0
  obtain⟨v,rfl,h1,hk⟩:=h
  exact⟨_,_,_,.pure _ rfl (RF v h1),hk⟩
 ·exact h.elim
def Dk(n:Nd):Bool:=decide (n.s.length≤200) && decide (n.name.length≤200)
theorem XF(v:Vl)(k:Nat)(hk:k≤1000000)(hs:v.length≤4611686018427387904)(htx:∀n∈v,n.s.length≤4611686018427387904∧n.name.length≤4611686018427387904):av Tryz.prog 8 [aj v,.int .i64 k] [] (.bool (vV v k)) []:=by
 refine Db.bR (T:=bA Tryz.prog [(19,BO)]) 0 hD (ay (af OC au)) bE (by decide) λQ hQ=>?_
 rcases Nat.lt_or_ge k v.length with hlen | hlen
 ·have hr:vV v k=false:=by
    have:decide (v.length≤k)=false:=by simp;omega
    simp[vV,this]
  have hlt:((k:Int)<(v.length:Int))=True:=eq_true (by omega)
  (conv=>arg 4;cbv);simp (maxSteps:=400000) only[↓aG,aH,BEq.rfl,seval,hQ,hr,hlt]
 have hlt:((k:Int)<(v.length:Int))=False:=eq_false (by omega)
 have hr:vV v k=(v.all Dk && bX v):=by
  have:decide (v.length≤k)=true:=by simpa using hlen
  simp only[vV,this,Bool.true_and]
  rfl
 have hsm:Small v:=⟨by omega,htx⟩
 (conv=>arg 4;cbv);simp (maxSteps:=400000) only[↓aG,aH,BEq.rfl,seval,hQ,hlt]
 refine aQ (λm S=>∃i:Nat,i+m=v.length∧(v.drop i).all Dk=v.all Dk∧S=⟨dD 34 [(0,aj v),(5,.int .i64 i)],[]⟩) v.length ⟨0,by omega,rfl,?_⟩ ?_
 ·simp only[cB,keepR,Nat.reduceAdd,oO,Nat.reduceBEq,List.map_nil]
  rfl
 rintro m S ⟨i,him,hal,rfl⟩
 rcases Nat.lt_or_ge i v.length with h | h
 ·have hg:=List.getElem?_eq_getElem h
  have hd:=List.drop_eq_getElem_cons h
  generalize v[i]=n at hg hd
  have zi:(0≤(i:Int))=True:=eq_true (by omega)
  have hlt:((i:Int)<(v.length:Int))=True:=eq_true (by omega)
  rw[hd,List.all_cons]at hal
  by_cases h1:n.s.length≤200
  rotate_left 1
  ·have e1:((200:Int)<(n.s.length:Int))=True:=eq_true (by omega)
   have hr2:vV v k=false:=by rw[hr,←hal];simp[Dk,h1]
   simp (maxSteps:=400000) only[↓aG,aH,BEq.rfl,seval,hQ,hg,zi,hlt,e1,hr2]
  have e1:((200:Int)<(n.s.length:Int))=False:=eq_false (by omega)
  by_cases h2:n.name.length≤200
  rotate_left 1
  ·have e2:((200:Int)<(n.name.length:Int))=True:=eq_true (by omega)
   have hr2:vV v k=false:=by rw[hr,←hal];simp[Dk,h2]
   simp (maxSteps:=400000) only[↓aG,aH,BEq.rfl,seval,hQ,hg,zi,hlt,e1,e2,hr2]
  have e2:((200:Int)<(n.name.length:Int))=False:=eq_false (by omega)
  simp (maxSteps:=400000) only[↓aG,aH,BEq.rfl,seval,hQ,hg,zi,hlt,e1,e2]
  refine⟨⟨by omega,by omega⟩,m-1,by omega,i+1,by omega,?_,by simp⟩
  rw[←hal];simp[Dk,h1,h2]
 ·have hlt:((i:Int)<(v.length:Int))=False:=eq_false (by omega)
  have hr2:vV v k=bX v:=by
   rw[hr,←hal,List.drop_eq_nil_of_le h];rfl
  simp (maxSteps:=400000) only[↓aG,aH,BEq.rfl,seval,hQ,hlt,↓BO,hr2]
  exact hsm
theorem Vk(v:Vl)(k:Int)(hk:0≤k∧k≤1000000)(hs:v.length≤4611686018427387904)(htx:∀n∈v,n.s.length≤4611686018427387904∧n.name.length≤4611686018427387904):av Tryz.prog 8 [aj v,.int .i64 k] [] (.bool (vV v k.toNat)) []:=by
 have e:k=(k.toNat:Int):=by omega
 rw[e]
 exact XF v k.toNat (by omega) hs htx
def Dl:d9:=λargs objs K=>match args with
 | [a0,.int .i64 k]=>gD aj a0 (HK.mk:HK λv=>(0≤k∧k≤1000000)∧(v.length≤4611686018427387904)∧(∀n∈v,n.s.length≤4611686018427387904∧n.name.length≤4611686018427387904)∧K (.bool (vV v k.toNat)) objs 0)
 | _=>False
theorem Vm:aR Tryz.prog 8 (Dl):=by
 intro args objs K h
 unfold Dl at h
 split at h
 ·rename_i a0 k
  obtain⟨v,rfl,h1,h2,h3,hk⟩:=h
  exact⟨_,_,_,.pure _ rfl (Vk v k h1 h2 h3),hk⟩
 ·exact h.elim
end Lp
namespace Lp
open Go
open List (append_nil mem_append)
def Rd(P:Program)(t:TypeId){α:Type}(enc:α→PV)(good:α→Prop):Prop:=
 ∀{H:Type}(eh:TypeId×Value→H) (w:World) (fuel:Nat) (cs:List Value) (x:DataW H×List MemPlace),DataW.trod eh P w 0 (λ_=>true) true fuel t cs=some x→
  (∀n∈DataW.weights P t x.1,n≤reachBytes)→∃a:α,good a∧bG (cu w (λ_=>True)) (enc a).cells cs
variable {P:Program}
theorem sO{R:PV→Value→Prop}{p:PV}{v:Value}(h:R p v):bG R [p] [v]:=
 ⟨rfl,λi q u h1 h2=>by
  cases i with
  | zero=>simp at h1 h2;subst h1;subst h2;exact h
  | succ i=>simp at h1⟩
theorem Rd.int {t:TypeId}{k:IntKind}(ht:P.underlying t=some (.int k)):Rd P t (.int k) (JM k):=by
 intro H eh w fuel cs x h _
 obtain⟨n,rfl,rfl,hw⟩:=DataW.trod_int ht h
 refine⟨n,?_,sO (.int k n)⟩
 simp only[Lit.wf,Bool.and_eq_true,decide_eq_true_eq]at hw
 cases k<;>simp only[IntKind.min,IntKind.max,IntKind.signed,IntKind.bits,JM]at hw ⊢<;>first | exact⟨by simpa using hw.1,by simpa using hw.2⟩ | (simp at hw;omega)
theorem Rd.bool {t:TypeId}(ht:P.underlying t=some .bool):Rd P t PV.bool (λ_=>True):=by
 intro H eh w fuel cs x h _
 obtain⟨b,rfl,rfl⟩:=DataW.trod_bool ht h
 exact⟨b,trivial,sO (.bool b)⟩
theorem Rd.str {t:TypeId}(ht:P.underlying t=some .string):Rd P t PV.str (λs=>s.length≤reachBytes):=by
 intro H eh w fuel cs x h hw
 obtain⟨s,rfl,rfl,_⟩:=DataW.trod_string ht h
 refine⟨s.data.toList,hw _ ?_,sO (KY w _ s)⟩
 rw[DataW.weights];simp
theorem Rd.slice {t e:TypeId}{α:Type}[Inhabited α]{enc:α→PV}{good:α→Prop}{sz:Nat}(ht:P.underlying t=some (.slice e))(he:Rd P e enc good)(hsz:P.cellsOf e=sz)(hpos:sz≠0)(hc:∀a,(enc a).cells.length=sz) :
  Rd P t (λl:List α=>.sl sz (l.map enc) none) (λl=>l.length*P.bytesOf e≤reachBytes∧∀a∈l,good a):=by
 intro H eh w fuel cs x h hw
 rcases Go.Deep.open_slice ht h with ⟨rfl,rfl⟩ | ⟨a,len,cap,m,n,D,Pl,rfl,hb,hl,hm,hmm,rfl,hx⟩
 ·exact⟨[],by simp,sO (.slnil _ _ (by simp))⟩
 ·simp only[if_true]at hmm
  subst hmm
  have hwt:∀i,i<len→∀n∈DataW.weights P e (D i),n≤reachBytes:=by
   intro i hi n hn
   refine hw n ?_
   rw[DataW.weights,ht]
   simp only[List.mem_cons,mem_append]
   right;left
   have key:∀(l:List (DataW H)) d,d∈l→n∈DataW.weights P e d→n∈DataW.weightsAll P e l:=by
    intro l
    induction l with
    | nil=>intro d hd;cases hd
    | cons y ys ih=>
     intro d hd hn
     rw[DataW.weightsAll,mem_append]
     rcases List.mem_cons.1 hd with rfl | hd
     ·exact .inl hn
     ·exact .inr (ih d hd hn)
   exact key _ (D i) (List.mem_map.2 ⟨i,List.mem_range.2 hi,rfl⟩) hn
  have hlen:(len:Nat)*P.bytesOf e≤reachBytes:=by
   have:=hw ((((List.range len).map D).length+((List.range (m-len)).map λj=>D (len+j)).length)*P.bytesOf e) (by rw[DataW.weights,ht];exact List.mem_cons_self)
   simp only[List.length_map,List.length_range]at this
   exact Nat.le_trans (Nat.mul_le_mul_right _ (by omega)) this
  obtain⟨f,hf⟩:∃f:Nat→α×List Value,∀i,i<len→good (f i).1∧w.cells? 0 (a.add (i*P.cellsOf e)) (P.cellsOf e)=some (f i).2∧bG (cu w (λ_=>True)) (enc (f i).1).cells (f i).2:=by
   have hex:∀i,i<len→∃y:α×List Value,good y.1∧w.cells? 0 (a.add (i*P.cellsOf e)) (P.cellsOf e)=some y.2∧bG (cu w (λ_=>True)) (enc y.1).cells y.2:=by
    intro i hi
    obtain⟨cs',h1,h2⟩:=hx i (by omega)
    obtain⟨y,g1,g2⟩:=he eh w n cs' _ h2 (hwt i hi)
    exact⟨(y,cs'),g1,h1,g2⟩
   exact Go.Deep.choose_lt hex
  rcases Nat.eq_zero_or_pos len with h0 | h0
  ·subst h0
   exact⟨[],by simp,sO (.FL _ _ (by simp) a m hm)⟩
  have hspot:a.spot=none:=by
   obtain⟨_,h2,h3⟩:=hf 0 h0
   obtain⟨_,g1,g2⟩:=World.cells?_some h2
   have:=g2 0 (by omega)
   rw[List.getElem?_eq_getElem (by omega)]at this
   have:=World.cell?_spot this
   simpa[Addr.add] using this
  obtain⟨b,off,spot⟩:=a
  simp only at hspot
  subst hspot
  have hcells:∀i,i<len→∀j,j<sz→w.cell? ⟨b,off+i*sz+j,none⟩=(f i).2[j]?:=by
   intro i hi j hj
   obtain⟨_,h2,_⟩:=hf i hi
   obtain⟨_,_,g2⟩:=World.cells?_some h2
   have:=g2 j (by omega)
   rw[hsz,add_lit,add_lit]at this
   exact this
  have hget:∀(i:Nat) (x:PV),(((List.range len).map λi=>(f i).1).map enc)[i]?=some x→i<len∧x=enc (f i).1:=by
   intro i x hx
   have hi:i<len:=by
    have:=(List.getElem?_eq_some_iff.1 hx).1
    simpa using this
   rw[List.getElem?_map,List.getElem?_map,List.getElem?_range hi]at hx
   simp only[Option.map_some,Option.some.injEq]at hx
   exact⟨hi,hx.symm⟩
  have hL:(((List.range len).map λi=>(f i).1).map enc).length=len:=by simp
  refine⟨(List.range len).map λi=>(f i).1,⟨by simpa using hlen,λy hy=>?_⟩,sO ?_⟩
  ·obtain⟨i,hi,rfl⟩:=List.mem_map.1 hy
   exact (hf i (List.mem_range.1 hi)).1
  ·have:cu w (λ_=>True) (.sl sz (((List.range len).map λi=>(f i).1).map enc) none) (.slice (some ⟨b,off,none⟩) (((List.range len).map λi=>(f i).1).map enc).length m):=by
     refine .sl sz _ none (by simp) b off m (λi j=>(f i).2.getD j undef) (λ_=>⟨trivial,?_⟩) (by rw[hL];exact hl) hm (λi x hx=>?_) (λi x j p hx hp=>?_) (λi x j p hx hp=>?_)
     ·have:=hcells 0 h0 0 (by omega)
      obtain⟨_,h2,_⟩:=hf 0 h0
      obtain⟨_,g1,_⟩:=World.cells?_some h2
      rw[List.getElem?_eq_getElem (by omega)]at this
      unfold World.cell? at this
      simp only at this
      cases hb':w.heap[b]? with
      | none=>rw[hb']at this;simp at this
      | some o=>exact (Array.getElem?_eq_some_iff.1 hb').1
     ·obtain⟨_,rfl⟩:=hget i x hx
      exact hc _
     ·obtain⟨hi,rfl⟩:=hget i x hx
      have hj:j<sz:=by rw[←hc (f i).1];exact (List.getElem?_eq_some_iff.1 hp).1
      rw[hcells i hi j hj]
      obtain⟨_,h2,_⟩:=hf i hi
      obtain⟨_,g1,_⟩:=World.cells?_some h2
      rw[List.getD_eq_getElem?_getD,List.getElem?_eq_getElem (by omega)]
      rfl
     ·obtain⟨hi,rfl⟩:=hget i x hx
      have hj:j<sz:=by rw[←hc (f i).1];exact (List.getElem?_eq_some_iff.1 hp).1
      obtain⟨_,h2,h3⟩:=hf i hi
      obtain⟨_,g1,_⟩:=World.cells?_some h2
      exact h3.2 j p _ hp (by rw[List.getD_eq_getElem?_getD,List.getElem?_eq_getElem (by omega)];rfl)
   rw[hL]at this
   exact this
theorem vO{H:Type}{n:Nat}:∀(ts:List TypeId) (ds:List (DataW H)) (i:Nat) (t:TypeId) (d:DataW H),ts[i]?=some t→ds[i]?=some d→n∈DataW.weights P t d→n∈DataW.weightsEach P ts ds
 | [],_,i,t,d,h,_,_=>by simp at h
 | _::_,[],i,t,d,_,h,_=>by simp at h
 | t'::ts,d'::ds,i,t,d,h1,h2,hn=>by
  rw[DataW.weightsEach,mem_append]
  cases i with
  | zero=>simp at h1 h2;subst h1;subst h2;exact .inl hn
  | succ i=>exact .inr (vO ts ds i t d (by simpa using h1) (by simpa using h2) hn)
theorem LV{H:Type}{eh:TypeId×Value→H}{w:World}{fuel:Nat}{t:TypeId}{fs:Array Field}{cs:List Value}{x:DataW H×List MemPlace}(ht:P.underlying t=some (.struct fs))
  (h:DataW.trod eh P w 0 (λ_=>true) true fuel t cs=some x) (hw:∀n∈DataW.weights P t x.1,n≤reachBytes) :
  cs.length=P.cellsOf t∧∀(i off:Nat) (e:TypeId),(fs.toList.map λf=>(f.offset,f.type))[i]?=some (off,e)→∃n y,DataW.trod eh P w 0 (λ_=>true) true n e ((cs.drop off).take (P.cellsOf e))=some y∧(∀m∈DataW.weights P e y.1,m≤reachBytes):=by
 obtain⟨xs,n,_,rfl,hl,hlen,hf⟩:=DataW.trod_struct ht h
 refine⟨hl,λi off e he=>?_⟩
 rw[List.getElem?_map]at he
 cases hfi:fs.toList[i]? with
 | none=>rw[hfi]at he;simp at he
 | some f=>
  rw[hfi]at he
  simp only[Option.map_some,Option.some.injEq,Prod.mk.injEq]at he
  obtain⟨rfl,rfl⟩:=he
  have adr:fs[i]?=some f:=by simpa using hfi
  have hi:i<xs.length:=by rw[hlen];exact (Array.getElem?_eq_some_iff.1 adr).1
  have h1:=hf i f adr
  rw[List.getElem?_eq_getElem hi]at h1
  refine⟨n,xs[i],h1,λm hm=>hw m ?_⟩
  rw[DataW.weights,ht]
  exact vO _ _ i f.type xs[i].1 (by rw[List.getElem?_map,hfi];rfl) (by rw[List.getElem?_map,List.getElem?_eq_getElem hi];rfl) hm
theorem zH{H:Type}{eh:TypeId×Value→H}(hl:laidOutB P=true){W W':World}(hb:∀b,b<W.heap.size→W'.heap[b]?=W.heap[b]?) :
  ∀(ts:List TypeId) (vs:List Value) (ds:List (DataW H)) (ps:List MemPlace),(∀t∈ts,P.readableRec t=true∧t<P.types.size)→DataW.TrodAll eh P W 0 (λ_=>true) true ts vs ds ps→
   DataW.TrodAll eh P W' 0 (λb=>decide (b<W.heap.size)) true ts vs ds ps
 | [],[],[],ps,_,h=>h
 | t::ts,v::vs,d::ds,ps,hr,⟨p,q,h1,h2,h3⟩=>by
  have hlt:∀x∈p,x.block<W.heap.size:=by obtain⟨m,hm⟩:=h1;exact DataW.trod_lt m _ _ _ hm
  refine⟨p,q,Go.WideElems.Trod_stays hl (hr t (by simp)).1 (hr t (by simp)).2 h1 (λx hx=>?_) (λx hx=>by simpa using hlt x hx),zH hl hb ts vs ds q (λt ht=>hr t (by simp[ht])) h2,h3⟩
  cases x with
  | cell b o=>exact World.cell?_of_block (w:=W) (hb b (hlt _ hx))
  | map b=>exact hb b (hlt _ hx)
 | [],_::_,_,_,_,h=>h.elim
 | [],[],_::_,_,_,h=>h.elim
 | _::_,[],_,_,_,h=>h.elim
 | _::_,_::_,[],_,_,h=>h.elim
theorem XG{C:Checked}{H:Type}{enc:TypeId×Value→H}{f:FuncId}{fn:Func}{s:ChangeSpec}{tb:TypeId}
  (hlaid:laidOutB C.prog=true) (hr:∀t∈fn.params.toList,C.prog.readableRec t=true∧t<C.prog.types.size)
  (hres:fn.resultTypes.toList=[tb]) (hsz:fn.resultTypes.size=1) (hb:C.prog.underlying tb=some .bool)
  (hvars:s.vars=[]) (hpl:s.plain.varTypes C.prog=[]) (hs:∀ds:List (DataW H),ds.length=fn.params.toList.length→s.fn H ds={ results:=[.lit (.bool true)],args:=ds })
  (hread:∀(W:World) (base:Nat) (args:List Value) (ds:List (DataW H)) (ps:List MemPlace),(∀(j:Nat) t v,fn.params[j]?=some t→args[j]?=some v→Value.okWide C.prog W .any base t v)→DataW.TrodAll enc C.prog W 0 (λ_=>true) true fn.params.toList args ds ps→(∀n∈DataW.weightsEach C.prog fn.params.toList ds,n≤reachBytes)→
   ∃pvs,bG (cu W (λ_=>True)) pvs args∧av C.prog f pvs [] (.bool true) [])
  {W:World}{base:Nat}{args:Array Value}{ds gs:List (DataW H)}{before:List MemPlace}(hg:mr.holds W.heap)
  (hval:∀(j:Nat) t v,fn.params[j]?=some t→args[j]?=some v→Value.okWide C.prog W .any base t v) (hW:DataW.Whole enc C.prog fn.params.toList s.vars false W args.toList ds gs before)
  (hsize:(DataW.weightsEach C.prog (fn.params.toList++s.plain.varTypes C.prog) (ds++gs)).all (·≤reachBytes)=true) :
  Calls C.prog f args W λe W'=>∃v,e=.returned v∧s.post enc C.prog fn false true false false W args v W':=by
 have hW':=hW
 obtain⟨p,q,hA,hV,rfl,hfz,hnd⟩:=hW
 rw[hvars]at hV
 obtain⟨rfl,rfl⟩:=Go.ChangeShapes.trodVars_none hV
 have hlen:ds.length=fn.params.toList.length:=by
  have:∀(ts:List TypeId) (vs:List Value) (ds:List (DataW H)) (ps:List MemPlace),DataW.TrodAll enc C.prog W 0 (λ_=>true) true ts vs ds ps→ds.length=ts.length:=by
   intro ts
   induction ts with
   | nil=>intro vs ds ps h;cases vs<;>cases ds<;>simp[DataW.TrodAll]at h ⊢
   | cons t ts ih=>
    intro vs ds ps h
    cases vs<;>cases ds<;>simp[DataW.TrodAll]at h ⊢
    obtain⟨_,_,_,h2,_⟩:=h
    exact ih _ _ _ h2
  exact this _ _ _ _ hA
 rw[hpl,append_nil,append_nil,List.all_eq_true]at hsize
 obtain⟨pvs,hrep,hspec⟩:=hread W base args.toList ds p (λj t v h1 h2=>hval j t v h1 (by simpa using h2)) hA (λn hn=>by simpa using hsize n hn)
 have hargs:bG (aO W (aZ (λ_=>True) [] (λ_=>none)) [] (λ_=>none)) pvs args.toList:=
  ⟨hrep.1,λi p v a b=>.aI ((hrep.2 i p v a b).o_ λ_ _ _=>⟨trivial,dH _ _⟩)⟩
 have hc:=hspec.2 W (λ_=>none) args.toList (λ_=>True) ⟨hg,λ_ _=>trivial⟩ (ul _ _ _ _) hargs
 refine Calls.mono hc λe W' ⟨v,ak,he,_,hv,hheap,hsize',hsm⟩=>?_
 subst he
 have hv':=hv.bool
 subst hv'
 have hkeep:∀b,b<W.heap.size→W'.heap[b]?=W.heap[b]?:=λb hb=>hheap b hb (dH _ _)
 refine⟨_,rfl,ds,[],p++[],[],p,[],hW',?_,?_,?_,?_,λh=>by cases h⟩
 ·rw[append_nil,hs ds hlen,hres,hsz]
  exact Go.ChangeShapes.trodAll_mk1 (Go.RowKit.shut_bool hb true)
 ·rw[append_nil,hs ds hlen]
  exact zH hlaid hkeep _ _ _ _ hr hA
 ·rw[hvars,append_nil,hs ds hlen];rfl
 ·refine⟨hsm.1,hsm.2,λi hi=>?_⟩
  rw[hkeep i hi]
  split<;>simp_all
theorem aa_{C:Checked}{os:Os}{H:Type}{enc:TypeId×Value→H}{f:FuncId}{fn:Func}{s:ChangeSpec}{tb:TypeId}{dom:List PathCond}{laid:List (String×DataW Unit)}
  (own:ownKnob C.prog.godebug=none) (started:os.Started) (noInit:C.prog.inits.idxOf? f=none) (hfn:C.prog.funcs[f]?=some fn)
  (witness:∃(w:World) (tape:Tape) (i:Input),w.os=os∧(w.forCall tape i).Shaped C.prog∧i.vars=[]∧Input.okWide C.prog (w.forCall tape i) .any w.heap.size f i∧
   (OpenSpec.ofChange s).preRow enc C.prog fn dom false laid (w.forCall tape i).memory i.args∧({}:Assume).holds C.prog (lone (Frame.enter C.prog f i.args .normal) [] (w.forCall tape i)))
  (hlaid:laidOutB C.prog=true) (hr:∀t∈fn.params.toList,C.prog.readableRec t=true∧t<C.prog.types.size)
  (hres:fn.resultTypes.toList=[tb]) (hsz:fn.resultTypes.size=1) (hb:C.prog.underlying tb=some .bool)
  (hvars:s.vars=[]) (hpl:s.plain.varTypes C.prog=[]) (hs:∀ds:List (DataW H),ds.length=fn.params.toList.length→s.fn H ds={ results:=[.lit (.bool true)],args:=ds })
  (hread:∀(W:World) (base:Nat) (args:List Value) (ds:List (DataW H)) (ps:List MemPlace),(∀(j:Nat) t v,fn.params[j]?=some t→args[j]?=some v→Value.okWide C.prog W .any base t v)→DataW.TrodAll enc C.prog W 0 (λ_=>true) true fn.params.toList args ds ps→(∀n∈DataW.weightsEach C.prog fn.params.toList ds,n≤reachBytes)→
   ∃pvs,bG (cu W (λ_=>True)) pvs args∧av C.prog f pvs [] (.bool true) [])
  (hg:∀W:World,laidMetH C.prog laid W→mr.holds W.heap) :
  ReturnsInHanded {} C os f .any ((OpenSpec.ofChange s).preRow enc C.prog fn dom false laid) (s.post enc C.prog fn false true false false):=by
 refine returnsInHanded_of_row (C:=C) (s:=OpenSpec.ofChange s) (F:=λ_ _=>default) own started noInit hfn witness ?_
 intro W base args ds gs before hval hW _ _ hsize hL _ _
 exact XG hlaid hr hres hsz hb hvars hpl hs hread (hg W hL) hval hW hsize
end Lp
namespace Lp
open Go
open List (getElem_zip length_zip)
variable {P:Program}{D:TypeId→aD}{T:Know}
def Know.use (T:Know)(n:Nat):Know:={ T with nx:=n,top:=false }
def LW(n:Nat):Env:=λ_ _ V=>∀w0,V w0→w0.nx≤n
theorem tL.use {n:Nat}(h:jP P T.fn)(hy:T.Y=λ_ _ _=>False)(hg:∀g cap ys,T.gives g cap ys→Gives P g cap ys)(he:∀g cap ys,T.ge g cap ys→qp P g cap ys)(hb:T.bb=false)(hgb:∀g bargs ys,T.gb g bargs ys→fC P g bargs ys)(hfa:∀f args objs K,T.fa f args objs K→jA P f args objs K:=by exact λ_ _ _ _ h=>h.elim):tL P none (LW n) (T.use n):=
 ⟨h,λ_ _ _ _=>by
  have h':(T.use n).Y=λ_ _ _=>False:=hy
  rw[h'];exact IG.none,λ_ _ _ hE w0 hw=>hE w0 hw,(λ_ _ e=>by cases e),hg,he,λ_ _ _ _=>YQ.none hb,hgb,hfa⟩
def abZ(t:Nat)(r:PV)(ai:List Obj)(e:Exit)(S:St):Prop:=
 (e=.normal∨e=.ret)∧S.tmps.getD t .dead=r∧S.objs=ai
theorem OD{tm:Array Value}{P:Program}{w w':World}:∀(rs:List ResultVar) (vs:List Value),(Gq tm rs).run P w=.ok vs w'→vs.length=rs.length
 | [],vs,h=>by
  simp only[Gq,Sem.run_pure]at h
  cases h;rfl
 | r::rs,vs,h=>by
  obtain⟨v,w1,_,h⟩:=run_bind_ok h
  obtain⟨vs',w2,h2,h⟩:=run_bind_ok h
  simp only[Sem.run_pure]at h
  cases h
  simp[OD rs vs' h2]
theorem FW.mP {f:FuncId}{fn:Func}{c:Code}{C:LC}{args:List PV}{r:PV}{objs ai:List Obj}{t n:Nat}(hD:∀t,fB P t (D t))(hT:tL P none (LW objs.length) T)(hm:P.follows .mixedOrders=true)
  (hf:P.funcs[f]?=some fn) (hname:(fn.name== "runtime.NumGoroutine")=false) (hb:fn.body=some c) (hn:fn.ntmps=n) (hr:fn.results=#[.tmp t]) (hC:strip C=comp c) (hlen:ai.length=objs.length)
  (h:iK P D T C (abZ t r ai) ⟨(aY args n).tmps,objs⟩):FW P f args objs r ai:=by
 refine⟨⟨fn,hf,hname,by rw[hb];rfl⟩,hlen,λbase ah w0 tmps blk a w vs R hargs=>?_⟩
 have hpw:PW P none (LW objs.length) c (abZ t r ai) ⟨(aY args n).tmps,objs⟩:=kG hD hm C _ _ _ c _ _ hT hC h
 have hpp:∀b,ah b→b<w.heap.size∧aK objs blk b:=λb hb=>⟨Nat.lt_of_lt_of_le (R.pr b hb) R.gr,λk o h1 h2 h3=>R.objs.np k o b h1 h2 h3 hb⟩
 have hz:∀x∈tmps.zip a.tmps.toList,aO w (aZ base objs blk) objs blk x.1 x.2:=by
  intro x hx
  obtain⟨i,hi,rfl⟩:=List.mem_iff_getElem.1 hx
  have hi':i<tmps.length∧i<a.tmps.toList.length:=by
   rw[length_zip]at hi
   omega
  rw[getElem_zip]
  have:=R.tm i tmps[i] (List.getElem?_eq_getElem hi'.1)
  have e:a.tmps.getD i undef=a.tmps.toList[i]:=by
   rw[Array.getD_eq_getD_getElem?,Array.getElem?_eq_getElem (by simpa using hi'.2)];simp
  rw[e]at this
  exact this
 have R2:Rel base (λb=>b<w.heap.size∧aK objs blk b) ⟨w.heap,tmps.zip a.tmps.toList++w0.xs,objs.length,w⟩ ⟨(aY args n).tmps,objs⟩ blk { tmps:=(⟨vs⟩:Array Value)++Array.replicate (n-(⟨vs⟩:Array Value).size) undef,defers:=[] } w:=by
  have hl:=hargs.1
  have hext:∀x∈tmps.zip a.tmps.toList++w0.xs,aO w (aZ base objs blk) objs blk x.1 x.2:=λx hx=>by
   rcases List.mem_append.1 hx with hx | hx
   ·exact hz x hx
   ·exact R.ext x hx
  refine⟨.nil _ _,?_,λt p hp=>?_,⟨R.objs.ob,R.objs.zV,λk o g h1 h2 h3 hp=>hp.2 k o h1 h2 h3⟩,λb hb=>hb.1,λ_ _=>rfl,Nat.le_refl _,λb hn=>?_,hext,λx hx=>uD (hext x hx),.refl w,⟨R.kZ,λb hb=>hpp b (R.gl.2 b hb)⟩⟩
  ·simp[aY,hl]
  ·simp only[aY]at hp
   rw[List.getElem?_append]at hp
   split at hp
   ·rename_i ht
    obtain⟨v,hv⟩:∃v,vs[t]?=some v:=⟨vs[t]'(by omega),List.getElem?_eq_getElem (by omega)⟩
    have hg:((⟨vs⟩:Array Value)++Array.replicate (n-(⟨vs⟩:Array Value).size) undef).getD t undef=v:=by
     rw[Array.getD_eq_getD_getElem?,Array.getElem?_append,if_pos (by simpa using (by omega:t<vs.length))]
     simp[hv]
    rw[hg]
    exact hargs.2 t p v hp hv
   ·rw[List.getElem?_replicate]at hp
    split at hp
    ·cases hp;exact .dead _
    ·cases hp
  ·rcases Nat.lt_or_ge b w.heap.size with h1 | h1
   ·refine R.pb b λhp=>hn (hpp b hp)
   ·exact R.bs b (Nat.le_trans R.gr h1)
 have hw:=hpw base _ (λx=>(⟨w.heap,tmps.zip a.tmps.toList++w0.xs,objs.length,w⟩:Wz)=x) (by rintro z rfl;exact Nat.le_refl _) _ _ _ ⟨_,rfl,R2⟩
 rw[←callsIn_wide (n:=0)]
 refine callsIn_of_wp_marks hf hb trivial ?_
 rw[hn]
 refine wpIn_mono hw ?_
 rintro e a' w' ⟨S',ak,⟨he,ho,m_⟩,_,rfl,R'⟩
 have key:∀w',Rel base (λb=>b<w.heap.size∧aK objs blk b) ⟨w.heap,tmps.zip a.tmps.toList++w0.xs,objs.length,w⟩ S' ak { a' with defers:=[] } w'→
     ∃v,(results fn a'.tmps).run P w'=.ok v w'∧(∃v' ak,Ending.returned v=.returned v'∧Rel base ah w0 ⟨tmps,ai⟩ ak a w'∧aO w' (aZ base ai ak) ai ak r v'):=by
  intro w' R'
  have hx:=R'.ev (.tmp t)
  change aO w' _ _ ak (S'.tmps.getD t .dead) (a'.tmps.getD t undef) at hx
  rw[ho,m_]at hx
  refine⟨_,results_tmp hr _ _ _,_,ak,rfl,?_,hx⟩
  have hpr:∀b,b<w.heap.size∧aK objs blk b→w'.heap[b]?=w.heap[b]?:=λb hb=>R'.fr b hb
  obtain⟨Ds,e1,e2,e3⟩:=R.oC
  have ob:=R'.objs
  have ex:=R'.ext
  rw[m_]at ob ex
  refine⟨⟨Ds,e1,e2,λb hb=>?_⟩,R.EB,λt p hp=>?_,⟨ob.ob,ob.zV,λk o g h1 h2 h3 hp=>ob.np k o g h1 h2 h3 (hpp g hp)⟩,R.pr,λb hb=>?_,Nat.le_trans R.gr R'.gr,R.pb,λx hx=>ex x (List.mem_append_right _ hx),R.yQ,R.sm.trans R'.sm,R.gl⟩
  ·obtain⟨h1,h2,h3⟩:=e3 b hb
   have hpb:b<w.heap.size∧aK objs blk b:=⟨(Array.getElem?_eq_some_iff.1 h1).1,h2.2⟩
   exact⟨by rw[hpr b hpb];exact h1,⟨h2.1,λk o g1 g2 g3=>ob.np k o b g1 g2 g3 hpb⟩,h3⟩
  ·refine ex (p,a.tmps.getD t undef) (List.mem_append_left _ ?_)
   have hlt:t<tmps.length:=(List.getElem?_eq_some_iff.1 hp).1
   have htz:t<a.tmps.size:=by rw[R.EB];exact hlt
   refine List.mem_iff_getElem.2 ⟨t,by rw[length_zip,Array.length_toList];exact Nat.lt_min.2 ⟨hlt,htz⟩,?_⟩
   rw[getElem_zip]
   have e:a.tmps.getD t undef=a.tmps.toList[t]'(by simpa using htz):=by
    rw[Array.getD_eq_getD_getElem?,Array.getElem?_eq_getElem htz];simp
   rw[e,(List.getElem?_eq_some_iff.1 hp).2]
  ·rw[hpr b (hpp b hb)];exact R.fr b hb
 rcases he with rfl | rfl<;>exact jk _ _ R' key
theorem aW.use {f:FuncId}{n t:Nat}{C:LC}{args:List PV}{r:PV}{objs ai:List Obj}(h:aW P f n [.tmp t] C)(hD:∀t,fB P t (D t))(hT:jP P T.fn)(hy:T.Y=λ_ _ _=>False)
  (hg:∀g cap ys,T.gives g cap ys→Gives P g cap ys) (hm:P.follows .mixedOrders=true) (hlen:ai.length=objs.length)
  (hw:iK P D (T.use objs.length) C (abZ t r ai) ⟨(aY args n).tmps,objs⟩) (he:∀g cap ys,T.ge g cap ys→qp P g cap ys:=by exact λ_ _ _ h=>h) (hb:T.bb=false:=by exact rfl) (hgb:∀g bargs ys,T.gb g bargs ys→fC P g bargs ys:=by exact λ_ _ _ h=>h.elim) (hfa:∀f args objs K,T.fa f args objs K→jA P f args objs K:=by exact λ_ _ _ _ h=>h.elim):FW P f args objs r ai:=by
 obtain⟨fn,c,h1,h2,h3,h4,h5,h6⟩:=h
 exact FW.mP hD (.use hT hy hg he hb hgb hfa) hm h1 h2 h3 h4 h5 h6 hlen hw
def ZJ(D:TypeId→aD)(rs:List ResultVar)(K:KT)(e:Exit)(S:St):Prop:=
 (e=.normal∨e=.ret)∧kT D S rs λps=>K (fU ps) S.objs 2
theorem jA.mP {f:FuncId}{fn:Func}{c:Code}{C:LC}{args:List PV}{objs:List Obj}{K:KT}{rs:List ResultVar}{n:Nat}(hD:∀t,fB P t (D t))(hT:tL P none (LW objs.length) T)(hm:P.follows .mixedOrders=true)
  (hf:P.funcs[f]?=some fn) (hname:(fn.name== "runtime.NumGoroutine")=false) (hb:fn.body=some c) (hn:fn.ntmps=n) (hr:fn.results=rs.toArray) (hl:rs.length≤1) (hC:strip C=comp c)
  (h:iK P D T C (ZJ D rs K) ⟨(aY args n).tmps,objs⟩):jA P f args objs K:=by
 refine⟨⟨fn,hf,hname,by rw[hb];rfl⟩,λbase ah w0 tmps blk a w vs R hargs=>?_⟩
 have hpw:PW P none (LW objs.length) c (ZJ D rs K) ⟨(aY args n).tmps,objs⟩:=kG hD hm C _ _ _ c _ _ hT hC h
 have hpp:∀b,ah b→b<w.heap.size∧aK objs blk b:=λb hb=>⟨Nat.lt_of_lt_of_le (R.pr b hb) R.gr,λk o h1 h2 h3=>R.objs.np k o b h1 h2 h3 hb⟩
 have hz:∀x∈tmps.zip a.tmps.toList,aO w (aZ base objs blk) objs blk x.1 x.2:=by
  intro x hx
  obtain⟨i,hi,rfl⟩:=List.mem_iff_getElem.1 hx
  have hi':i<tmps.length∧i<a.tmps.toList.length:=by
   rw[length_zip]at hi
   omega
  rw[getElem_zip]
  have:=R.tm i tmps[i] (List.getElem?_eq_getElem hi'.1)
  have e:a.tmps.getD i undef=a.tmps.toList[i]:=by
   rw[Array.getD_eq_getD_getElem?,Array.getElem?_eq_getElem (by simpa using hi'.2)];simp
  rw[e]at this
  exact this
 have R2:Rel base (λb=>b<w.heap.size∧aK objs blk b) ⟨w.heap,tmps.zip a.tmps.toList++w0.xs,objs.length,w⟩ ⟨(aY args n).tmps,objs⟩ blk { tmps:=(⟨vs⟩:Array Value)++Array.replicate (n-(⟨vs⟩:Array Value).size) undef,defers:=[] } w:=by
  have hl:=hargs.1
  have hext:∀x∈tmps.zip a.tmps.toList++w0.xs,aO w (aZ base objs blk) objs blk x.1 x.2:=λx hx=>by
   rcases List.mem_append.1 hx with hx | hx
   ·exact hz x hx
   ·exact R.ext x hx
  refine⟨.nil _ _,?_,λt p hp=>?_,⟨R.objs.ob,R.objs.zV,λk o g h1 h2 h3 hp=>hp.2 k o h1 h2 h3⟩,λb hb=>hb.1,λ_ _=>rfl,Nat.le_refl _,λb hn=>?_,hext,λx hx=>uD (hext x hx),.refl w,⟨R.kZ,λb hb=>hpp b (R.gl.2 b hb)⟩⟩
  ·simp[aY,hl]
  ·simp only[aY]at hp
   rw[List.getElem?_append]at hp
   split at hp
   ·rename_i ht
    obtain⟨v,hv⟩:∃v,vs[t]?=some v:=⟨vs[t]'(by omega),List.getElem?_eq_getElem (by omega)⟩
    have hg:((⟨vs⟩:Array Value)++Array.replicate (n-(⟨vs⟩:Array Value).size) undef).getD t undef=v:=by
     rw[Array.getD_eq_getD_getElem?,Array.getElem?_append,if_pos (by simpa using (by omega:t<vs.length))]
     simp[hv]
    rw[hg]
    exact hargs.2 t p v hp hv
   ·rw[List.getElem?_replicate]at hp
    split at hp
    ·cases hp;exact .dead _
    ·cases hp
  ·rcases Nat.lt_or_ge b w.heap.size with h1 | h1
   ·refine R.pb b λhp=>hn (hpp b hp)
   ·exact R.bs b (Nat.le_trans R.gr h1)
 have hw:=hpw base _ (λx=>(⟨w.heap,tmps.zip a.tmps.toList++w0.xs,objs.length,w⟩:Wz)=x) (by rintro z rfl;exact Nat.le_refl _) _ _ _ ⟨_,rfl,R2⟩
 rw[←callsIn_wide (n:=0)]
 refine callsIn_of_wp_marks hf hb trivial ?_
 rw[hn]
 refine wpIn_mono hw ?_
 rintro e a' w' ⟨S',ak,⟨he,hout⟩,_,rfl,R'⟩
 have key:∀w',Rel base (λb=>b<w.heap.size∧aK objs blk b) ⟨w.heap,tmps.zip a.tmps.toList++w0.xs,objs.length,w⟩ S' ak { a' with defers:=[] } w'→
     ∃v,(results fn a'.tmps).run P w'=.ok v w'∧(∃v' r ai ak,Ending.returned v=.returned v'∧K r ai 2∧Rel base ah w0 ⟨tmps,ai⟩ ak a w'∧aO w' (aZ base ai ak) ai ak r v'):=by
  intro w' R'
  obtain⟨vs',ps,h1,h2,h3⟩:=sI hD R' rs _ hout
  have hx:aO w' (aZ base S'.objs ak) S'.objs ak (fU ps) (EI vs'):=by
   obtain⟨q1,q2⟩:=h3
   have hsz:ps.length≤1:=by
    have:=OD _ _ h1
    omega
   match ps,vs',q1,q2,hsz with
   | [],[],_,_,_=>exact .aI (.bY [] [] rfl λi p v hp _=>by simp at hp)
   | [p],[v],_,q2,_=>exact q2 0 p v rfl rfl
  refine⟨_,qY hr (by omega) h1,_,fU ps,S'.objs,ak,rfl,h2,?_,hx⟩
  have hpr:∀b,b<w.heap.size∧aK objs blk b→w'.heap[b]?=w.heap[b]?:=λb hb=>R'.fr b hb
  obtain⟨Ds,e1,e2,e3⟩:=R.oC
  have ob:=R'.objs
  have ex:=R'.ext
  refine⟨⟨Ds,e1,e2,λb hb=>?_⟩,R.EB,λt p hp=>?_,⟨ob.ob,ob.zV,λk o g h1 h2 h3 hp=>ob.np k o g h1 h2 h3 (hpp g hp)⟩,R.pr,λb hb=>?_,Nat.le_trans R.gr R'.gr,R.pb,λx hx=>ex x (List.mem_append_right _ hx),R.yQ,R.sm.trans R'.sm,R.gl⟩
  ·obtain⟨h1,h2,h3⟩:=e3 b hb
   have hpb:b<w.heap.size∧aK objs blk b:=⟨(Array.getElem?_eq_some_iff.1 h1).1,h2.2⟩
   exact⟨by rw[hpr b hpb];exact h1,⟨h2.1,λk o g1 g2 g3=>ob.np k o b g1 g2 g3 hpb⟩,h3⟩
  ·refine ex (p,a.tmps.getD t undef) (List.mem_append_left _ ?_)
   have hlt:t<tmps.length:=(List.getElem?_eq_some_iff.1 hp).1
   have htz:t<a.tmps.size:=by rw[R.EB];exact hlt
   refine List.mem_iff_getElem.2 ⟨t,by rw[length_zip,Array.length_toList];exact Nat.lt_min.2 ⟨hlt,htz⟩,?_⟩
   rw[getElem_zip]
   have e:a.tmps.getD t undef=a.tmps.toList[t]'(by simpa using htz):=by
    rw[Array.getD_eq_getD_getElem?,Array.getElem?_eq_getElem htz];simp
   rw[e,(List.getElem?_eq_some_iff.1 hp).2]
  ·rw[hpr b (hpp b hb)];exact R.fr b hb
 rcases he with rfl | rfl<;>exact jk _ _ R' key
theorem aW.ads {f:FuncId}{n:Nat}{rs:List ResultVar}{C:LC}{args:List PV}{objs:List Obj}{K:KT}(h:aW P f n rs C)(hD:∀t,fB P t (D t))(hT:tL P none (LW objs.length) T)(hm:P.follows .mixedOrders=true)(hl:rs.length≤1)
  (hw:iK P D T C (ZJ D rs K) ⟨(aY args n).tmps,objs⟩):jA P f args objs K:=by
 obtain⟨fn,c,h1,h2,h3,h4,h5,h6⟩:=h
 exact jA.mP hD hT hm h1 h2 h3 h4 h5 hl h6 hw
end Lp
namespace Lp
open Go
variable {P:Program}{D:TypeId→aD}{T:Know}
def fG(p q:PV):Prop:=∀(w:World) (ok:Nat→Prop) (v:Value),cu w ok p v→cu w ok q v
theorem fG.refl (p:PV):fG p p:=λ_ _ _ h=>h
theorem gF(sz sz':Nat):fG (.sl sz [] (some true)) (.sl sz' [] none):=by
 intro w ok v h
 cases h with
 | slnil _ _ _=>exact .slnil sz' none (by decide)
 | FL _ _ hq=>exact absurd rfl hq
 | sl _ _ _ hq=>exact absurd rfl hq
theorem fG.agg {ps qs:List PV}(hl:ps.length=qs.length)(h:∀(i:Nat) (p q:PV),ps[i]?=some p→qs[i]?=some q→fG p q):fG (.agg ps) (.agg qs):=by
 intro w ok v hr
 cases hr with
 | agg _ vs hl' hh=>
  refine .agg _ _ (by omega) λi q u hq hu=>?_
  have hi:i<ps.length:=by rw[hl];exact (List.getElem?_eq_some_iff.1 hq).1
  exact h i _ q (List.getElem?_eq_getElem hi) hq w ok u (hh i _ u (List.getElem?_eq_getElem hi) hu)
theorem fG.bY {ps qs:List PV}(hl:ps.length=qs.length)(h:∀(i:Nat) (p q:PV),ps[i]?=some p→qs[i]?=some q→fG p q):fG (.bY ps) (.bY qs):=by
 intro w ok v hr
 cases hr with
 | bY _ vs hl' hh=>
  refine .bY _ _ (by omega) λi q u hq hu=>?_
  have hi:i<ps.length:=by rw[hl];exact (List.getElem?_eq_some_iff.1 hq).1
  exact h i _ q (List.getElem?_eq_getElem hi) hq w ok u (hh i _ u (List.getElem?_eq_getElem hi) hu)
theorem Dm{f:List PV→PV}(hf:f=PV.agg∨f=PV.bY){a b c d:PV}(h1:fG a c)(h2:fG b d):fG (f [a,b]) (f [c,d]):=by
 have key:∀(i:Nat) (p q:PV),[a,b][i]?=some p→[c,d][i]?=some q→fG p q:=by
  intro i p q hp hq
  match i with
  | 0=>cases hp;cases hq;exact h1
  | 1=>cases hp;cases hq;exact h2
  | _+2=>simp at hp
 rcases hf with rfl | rfl
 ·exact .agg rfl key
 ·exact .bY rfl key
theorem av.res {f:FuncId}{args:List PV}{objs:List Obj}{r r':PV}(h:av P f args objs r [])(ht:fG r r'):av P f args objs r' []:=by
 refine⟨h.1,λw blk vs base hb R ha=>(h.2 w blk vs base hb R ha).mono ?_⟩
 rintro e w' ⟨v,ak,h1,h2,h3,h4⟩
 exact⟨v,ak,h1,h2,.aI (ht _ _ _ (qx h3)),h4⟩
theorem av.arg {f:FuncId}{args args':List PV}{r:PV}{ai:List Obj}(h:av P f args [] r ai)(hl:args'.length=args.length)(ht:∀(i:Nat) (p q:PV),args'[i]?=some p→args[i]?=some q→fG p q):av P f args' [] r ai:=by
 refine⟨h.1,λw blk vs base hb R ha=>h.2 w blk vs base hb R ⟨by rw[←hl];exact ha.1,λi q v hq hv=>?_⟩⟩
 have hi:i<args'.length:=by rw[hl];exact (List.getElem?_eq_some_iff.1 hq).1
 exact .aI (ht i _ q (List.getElem?_eq_getElem hi) hq _ _ _ (qx (ha.2 i _ v (List.getElem?_eq_getElem hi) hv)))
structure adt (d t:Nat) (o':Obj) (S:St):Prop where
 h:Rc d t o' .ret S
theorem I4{d t n:Nat}{o':Obj}{l:List (Nat×PV)}{ob:List Obj}{k ver:Nat}{o:Obj}(h1:(dD n l).getD t .dead=.aS k ver)(h2:ob[k]?=some o)(h3:o.live=true)(h4:o.ver=ver)(h5:{ eO d (k+1) ob o with ver:=0 }=o')(h6:bC [o']):adt d t o' ⟨dD n l,ob⟩:=
 ⟨.inr rfl,_,k,ver,o,Weak.refl _ _,h1,h2,h3,h4,h5,h6⟩
theorem aW.Ej {f:FuncId}{n t:Nat}{C:LC}{args:List PV}{o':Obj}(h:aW P f n [.tmp t] C)(d:Nat)(hD:∀t,fB P t (D t))(hT:tL P none sJ T)(hm:P.follows .mixedOrders=true)
  (hw:∀Q:Exit→St→Prop,(∀l ob,Q .ret ⟨dD n l,ob⟩=adt d t o' ⟨dD n l,ob⟩)→iK P D T C Q (aY args n)):av P f args [] (.aS 0 0) [o']:=
 h.made d hD hT hm (hw _ λl ob=>propext ⟨λh=>⟨h⟩,λh=>h.h⟩)
structure ab0 (D:TypeId→aD) (d:Nat) (rs:List ResultVar) (qs:List PV) (o':Obj) (S:St):Prop where
 h:Zr D d rs qs o' .ret S
theorem aex{d n k:Nat}{rs:List ResultVar}{qs:List PV}{o':Obj}{l:List (Nat×PV)}{ob:List Obj}{o:Obj}(h1:ob[k]?=some o)(h2:o.live=true)(h3:kT D ⟨dD n l,ob⟩ rs (λps=>ps=.aS k o.ver::qs))(h4:jR d k ⟨dD n l,ob⟩ o=o')(h5:bC [o'])(h6:qs.all PV.atom=true):ab0 D d rs qs o' ⟨dD n l,ob⟩:=
 ⟨.inr rfl,_,k,o,Weak.refl _ _,h3,h1,h2,h4,h5,h6⟩
theorem aW.ab1 {f:FuncId}{n:Nat}{rs:List ResultVar}{C:LC}{args:List PV}{qs:List PV}{o':Obj}(h:aW P f n rs C)(d:Nat)(hD:∀t,fB P t (D t))(hT:tL P none sJ T)(hm:P.follows .mixedOrders=true)(hl:rs.length≤3)
  (hw:∀Q:Exit→St→Prop,(∀l ob,Q .ret ⟨dD n l,ob⟩=ab0 D d rs qs o' ⟨dD n l,ob⟩)→iK P D T C Q (aY args n)):av P f args [] (fU (.aS 0 0::qs)) [o']:=
 h.ac7 d hD hT hm hl (hw _ λl ob=>propext ⟨λh=>⟨h⟩,λh=>h.h⟩)
theorem Vn{base ah:Nat→Prop}{w':World}{ak:Nat→Option Nat}{o:Obj}{v:Value}(h2:cO base ah [o] ak w')(h3:aV w' (aZ base [o] ak) [o] ak (.aS 0 0) v)(hb:∀b,¬ ah b→base b)(hl:o.live=true)(hv:o.ver=0)(hn:bC [o]) :
  cu w' (aZ base [] ak) (.sl o.sz o.xs none) v:=by
 obtain⟨_,o1,g1,_,g3⟩:=h3
 cases g1
 obtain⟨hM,hh⟩:=g3 hl hv
 have ho:=h2.ob 0 o rfl hl
 unfold vL at hh
 unfold bB at ho
 cases hg:ak 0 with
 | none=>rw[hg]at hh;rw[hh.1,hh.2];exact .slnil _ _ (by decide)
 | some g=>
  rw[hg]at hh ho
  obtain⟨cap,c,rfl,x1,x2,x3,x4⟩:=hh
  obtain⟨c',y1,y2,y3⟩:=ho
  rw[jv hM]at y1
  rw[x1]at y1;cases y1
  have hgb:base g:=hb g (h2.np 0 o g rfl hl hg)
  refine .sl o.sz o.xs none (by decide) g 0 cap (λi j=>(c[i*o.sz+j]?).getD undef) (λ_=>⟨⟨hgb,dH _ _⟩,(Array.getElem?_eq_some_iff.1 x1).1⟩) x2 x3 (λi x hx=>(y3 i x hx).1) ?_ ?_
  ·intro i x j p hx hp
   obtain⟨u,u1,_⟩:=(y3 i x hx).2 j p hp
   simp[World.cell?,x1,u1]
  ·intro i x j p hx hp
   obtain⟨u,u1,u2⟩:=(y3 i x hx).2 j p hp
   rw[u1,Option.getD_some]
   exact (u2.zo (hn o (by simp) x (List.mem_of_getElem? hx) p (List.mem_of_getElem? hp))).o_ λb _ hb=>⟨hb.1,dH _ _⟩
theorem XH{base:Nat→Prop}{w:World}{blk:Nat→Option Nat}(hb:mr.holds w.heap∧∀b,w.heap.size≤b→base b)(b:Nat)(h:¬ (b<w.heap.size∧aK [] blk b)):base b:=
 hb.2 b (Nat.not_lt.1 λq=>h ⟨q,dH _ _⟩)
theorem av.froze {f:FuncId}{args:List PV}{o:Obj}(h:av P f args [] (.aS 0 0) [o])(hl:o.live=true)(hv:o.ver=0)(hn:bC [o]):av P f args [] (.sl o.sz o.xs none) []:=by
 refine⟨h.1,λw blk vs base hb R ha=>(h.2 w blk vs base hb R ha).mono ?_⟩
 rintro e w' ⟨v,ak,h1,h2,h3,h4⟩
 exact⟨v,ak,h1,ul _ _ _ _,.aI (Vn h2 h3 (XH hb) hl hv hn),h4⟩
@[congr] theorem abb{s t:TypeId}{x x':PV}{objs ai:List Obj}{K:KT}(h:x=x')(ho:objs=ai):qR D s t x objs K=qR D s t x' ai K:=by rw[h,ho]
@[congr] theorem Vo{x x':PV}{objs ai:List Obj}{K:KT}(h:x=x')(ho:objs=ai):dx x objs K=dx x' ai K:=by rw[h,ho]
end Lp
namespace Lp
open Go Go.Proofs
open List (length_append length_cons length_nil map_map map_nil mem_singleton)
theorem TI:PV.vM (.agg ⟨[.int .i64 0,.int .i64 0,.string ⟨⟨[]⟩⟩,.string ⟨⟨[]⟩⟩,.bool false,.int .i64 0]⟩)=aM ⟨0,0,[],[],false,0⟩:=rfl
theorem TJ(a:Nd)(k m:Int)(x y:List UInt8)(g:Bool)(e:Int):(aM a).putCells 0 [.int .i64 k,.int .i64 m,.str x,.str y,.bool g,.int .i64 e]=aM ⟨k,m,x,y,g,e⟩:=rfl
theorem XI(n:Nd)(r:Vl):(∀y,y∈aM n::r.map aM→y.cells.length=6∧y.cells.all PV.storable=true)=True:=by
 have:=wL (enc:=aM) (sz:=6) (λ_=>rfl) (λ_=>rfl) (n::r)
 rwa[List.map_cons]at this
theorem XJ(v:Vl)(i j:Nat)(hij:i<j)(hj:j≤v.length)(hl:v.length≤1000000):av Tryz.prog 64 [aj v,.int .i64 i,.int .i64 j] [] (aj (gI ((v.take j).drop i))) []:=by
 obtain⟨n,r,hnr⟩:∃n r,(v.take j).drop i=n::r:=by
  cases h:(v.take j).drop i with
  | nil=>have:=congrArg List.length h;simp at this;omega
  | cons n r=>exact⟨n,r,rfl⟩
 have hlen:((v.take j).drop i).length≤1000000:=by simp;omega
 rw[hnr]at hlen ⊢
 simp only[length_cons]at hlen
 have zi:(0≤(i:Int))=True:=eq_true (by omega)
 have c1:((i:Int)≤(j:Int))=True:=eq_true (by omega)
 have c2:((j:Int)≤(v.length:Int))=True:=eq_true (by omega)
 refine Df.bR (T:=bA Tryz.prog []) 1 hD (ay au) bE (by decide) λQ hQ=>?_
 (conv=>arg 4;cbv);simp (maxSteps:=400000) only[↓aG,aH,BEq.rfl,seval,hQ,zi,c1,c2,hnr,TI,TJ,XI,List.set_cons_zero]
 exact⟨by omega,by omega,by omega,by omega,((iE hV inN).1 _ _ (gI (n::r)) 2 _).symm⟩
theorem Vp(v:Vl)(i j:Int)(h:0≤i∧i<j∧j≤v.length)(hl:v.length≤1000000):av Tryz.prog 64 [aj v,.int .i64 i,.int .i64 j] [] (aj (gI ((v.take j.toNat).drop i.toNat))) []:=by
 have e1:i=(i.toNat:Int):=by omega
 have e2:j=(j.toNat:Int):=by omega
 have:=XJ v i.toNat j.toNat (by omega) (by omega) hl
 rw[←e1,←e2]at this
 exact this
def LX:d9:=λargs objs K=>match args with
 | [a0,.int .i64 i,.int .i64 j]=>gD aj a0 (HK.mk:HK λv=>(0≤i∧i<j∧j≤v.length)∧(v.length≤1000000)∧K (aj (gI ((v.take j.toNat).drop i.toNat))) objs 0)
 | _=>False
theorem Vq:aR Tryz.prog 64 (LX):=by
 intro args objs K h
 unfold LX at h
 split at h
 ·rename_i a0 i j
  obtain⟨v,rfl,h1,h2,hk⟩:=h
  exact⟨_,_,_,.pure _ rfl (Vp v i j h1 h2),hk⟩
 ·exact h.elim
theorem GH(L:Nat):∀(v:Vl) (k c:Nat),skip v k=some c→c≤L→mZ L v k=some c
 | v,0,c,h,_=>by cases v<;>simpa[mZ,skip] using h
 | [],k+1,c,h,_=>by simp[skip]at h
 | n::v,k+1,c,h,hc=>by
  obtain⟨hm,c',rfl,h'⟩:=dJ h
  have:=gH _ _ _ h'
  rw[mZ,if_neg (by omega),GH L v _ c' h' (by omega)];rfl
def yZ(l:List Vl)(ver:Nat):Obj:=⟨23,1,l.map aj,true,ver⟩
def GI(l:List (List UInt8))(ver:Nat):Obj:=⟨9,1,l.map .str,true,ver⟩
theorem Ko(d n:Nat)(O:List Obj)(t:TypeId)(sz:Nat)(l:List Vl)(ver:Nat):eO d n O ⟨t,sz,l.map aj,true,ver⟩=⟨t,sz,l.map aj,true,ver⟩:=by
 have:(l.map aj).map (PV.bJ (fA d n O))=l.map aj:=by
  rw[map_map]
  exact List.map_congr_left λx _=>rfl
 simp only[eO,this]
theorem Dp(d n:Nat)(O:List Obj)(t:TypeId)(sz:Nat)(l:List (List UInt8))(ver:Nat):eO d n O ⟨t,sz,l.map .str,true,ver⟩=⟨t,sz,l.map .str,true,ver⟩:=by
 have:(l.map PV.str).map (PV.bJ (fA d n O))=l.map PV.str:=by
  rw[map_map]
  exact List.map_congr_left λx _=>rfl
 simp only[eO,this]
theorem sP(l:List Vl)(ver:Nat):bC [yZ l ver]:=by
 intro o ho x hx c hc
 simp only[mem_singleton]at ho;subst ho
 obtain⟨y,_,rfl⟩:=List.mem_map.1 hx
 simp only[aj,PV.cells,mem_singleton]at hc
 subst hc;rfl
theorem p9(l:List (List UInt8))(ver:Nat):bC [GI l ver]:=by
 intro o ho x hx c hc
 simp only[mem_singleton]at ho;subst ho
 obtain⟨y,_,rfl⟩:=List.mem_map.1 hx
 simp only[PV.cells,mem_singleton]at hc
 subst hc;rfl
theorem zI(v:Vl)(ho:One v)(hl:v.length≤1000000):av Tryz.prog 40 [aj v] [] (.aS 0 0) [yZ (ax v) 0]:=by
 obtain⟨n,r,hv⟩:∃n r,v=n::r:=by
  cases v with
  | nil=>exact absurd rfl ho.ne
  | cons n r=>exact⟨n,r,rfl⟩
 have ho':=ho
 rw[hv]at ho'
 obtain⟨hm,ps,hp,hfl,hps⟩:=ho'.parts
 have hpl:=dW _ _ _ hp
 have hg0:v[0]?=some n:=by rw[hv];rfl
 have hr:ax v=ps.map gI:=by rw[hv,ax];exact (dB hp).1
 have hmn:n.many=(ps.length:Int):=by omega
 have hd1:v.drop 1=r:=by rw[hv];rfl
 have ZI:=iY _ _ _ hp
 have hrl:r.length+1=v.length:=by rw[hv];rfl
 rw[hr]
 refine Ac.Ej (T:=bA Tryz.prog [(34,iw),(64,LX)]) 1 hD (ay (af uK (af Vq au))) bE λQ hQ=>?_
 (conv=>arg 4;cbv);simp (maxSteps:=400000) only[↓aG,aH,BEq.rfl,seval,hQ]
 refine aQ (λm S=>∃(i ver:Nat) (done:List Vl) (rest:List Vl),m=rest.length∧done.length+rest.length=ps.length∧done++rest.map gI=ps.map gI∧parts rest.length (v.drop i)=some rest∧
  S=⟨dD 28 [(0,aj v),(3,.aS 0 ver),(4,.int .i64 i),(5,.int .i64 done.length)],[⟨23,1,done.map aj,true,ver⟩]⟩) ps.length ⟨1,1,[],ps,rfl,by simp,rfl,by rw[hd1,hpl];exact hp,?_⟩ ?_
 ·simp only[cB,keepR,Nat.reduceAdd,oO,Nat.reduceBEq,map_nil]
  rfl
 rintro m S ⟨i,ver,done,rest,rfl,hdl,hdr,hrp,rfl⟩
 cases rest with
 | nil=>
  simp only[length_nil,Nat.add_zero]at hdl
  have hlt:((done.length:Int)<(ps.length:Int))=False:=eq_false (by omega)
  simp only[map_nil,List.append_nil]at hdr
  simp (maxSteps:=400000) only[↓aG,aH,BEq.rfl,seval,hQ,hg0,hmn,hlt]
  rw[hdr]
  exact I4 (k:=0) (ver:=ver) rfl rfl rfl rfl (congrArg (λo:Obj=>{ o with ver:=0 }) (Ko 1 1 _ 23 1 (ps.map gI) ver)) (sP _ 0)
 | cons p qs=>
  obtain⟨c,qs',h1,h2,h3⟩:=gV (k:=qs.length) hrp
  simp only[List.cons.injEq]at h2
  obtain⟨hp1,rfl⟩:=h2
  simp only[length_cons]at hdl
  have hlt:((done.length:Int)<(ps.length:Int))=True:=eq_true (by omega)
  have hc:=gH _ _ _ h1
  simp only[List.length_drop]at hc
  have hnx:sM v i=(i+c:Nat):=BN (GH _ _ _ _ h1 (by omega))
  have zi:(0≤(i:Int))=True:=eq_true (by omega)
  simp (maxSteps:=400000) only[↓aG,aH,BEq.rfl,seval,hQ,hg0,hmn,hlt,↓iw,↓LX,hnx,zi]
  have hpe:List.drop i (List.take (i+c) v)=p:=by
   rw[List.drop_take,hp1,show i+c-i=c by omega]
  have happ:List.map aj done++[aj (gI p)]=List.map aj (done++[gI p]):=by simp
  rw[hpe,happ]
  refine⟨by omega,hl,⟨by omega,by omega⟩,hl,by omega,by omega,⟨by omega,by omega⟩,qs.length,by omega,i+c,ver+1,done++[gI p],qs,rfl,?_,?_,?_,?_⟩
  ·simp only[length_append,length_cons,length_nil];omega
  ·rw[←hdr];simp
  ·rw[←List.drop_drop];exact h3
  ·simp only[length_append,length_cons,length_nil,Nat.zero_add,Int.natCast_add,Int.cast_ofNat_Int,Int.natCast_one]
theorem I5(v:Vl)(ho:One v)(hl:v.length≤1000000):av Tryz.prog 40 [aj v] [] (bT (ax v)) []:=
 (zI v ho hl).froze rfl rfl (sP _ 0)
def iN:d9:=λargs objs K=>match args with
 | [a0]=>gD aj a0 (HK.mk:HK λv=>(One v)∧(v.length≤1000000)∧K (bT (ax v)) objs 0)
 | _=>False
theorem qA:aR Tryz.prog 40 (iN):=by
 intro args objs K h
 unfold iN at h
 split at h
 ·rename_i a0
  obtain⟨v,rfl,h1,h2,hk⟩:=h
  exact⟨_,_,_,.pure _ rfl (I5 v h1 h2),hk⟩
 ·exact h.elim
theorem vP(v:Vl)(ho:One v)(hl:v.length≤1000000):av Tryz.prog 62 [aj v] [] (.aS 0 0) [GI (aJ v) 0]:=by
 obtain⟨n,r,hv⟩:∃n r,v=n::r:=by
  cases v with
  | nil=>exact absurd rfl ho.ne
  | cons n r=>exact⟨n,r,rfl⟩
 have ho':=ho
 rw[hv]at ho'
 obtain⟨hm,ps,hp,hfl,hps⟩:=ho'.parts
 have hpl:=dW _ _ _ hp
 have hg0:v[0]?=some n:=by rw[hv];rfl
 have hr:aJ v=if n.kind=6 then ps.map nameOf else []:=by rw[hv,aJ,(dB hp).2]
 have hmn:n.many=(ps.length:Int):=by omega
 have hd1:v.drop 1=r:=by rw[hv];rfl
 have ZI:=iY _ _ _ hp
 have hrl:r.length+1=v.length:=by rw[hv];rfl
 refine Ad.Ej (T:=bA Tryz.prog [(34,iw)]) 1 hD (ay (af uK au)) bE λQ hQ=>?_
 (conv=>arg 4;cbv);simp (maxSteps:=400000) only[↓aG,aH,BEq.rfl,seval,hQ]
 refine aQ (λm S=>∃(i ver:Nat) (done:List (List UInt8)) (rest:List Vl),m=rest.length∧(done=[]∨n.kind=6)∧done.length+rest.length=ps.length∧done++rest.map nameOf=ps.map nameOf∧parts rest.length (v.drop i)=some rest∧
  S=⟨dD 34 [(0,aj v),(3,.aS 0 ver),(4,.int .i64 i),(5,.int .i64 done.length)],[⟨9,1,done.map .str,true,ver⟩]⟩) ps.length ⟨1,1,[],ps,rfl,.inl rfl,by simp,rfl,by rw[hd1,hpl];exact hp,?_⟩ ?_
 ·simp only[cB,keepR,Nat.reduceAdd,oO,Nat.reduceBEq,map_nil]
  rfl
 rintro m S ⟨i,ver,done,rest,rfl,hdn,hdl,hdr,hrp,rfl⟩
 cases rest with
 | nil=>
  simp only[length_nil,Nat.add_zero]at hdl
  have hlt:((done.length:Int)<(ps.length:Int))=False:=eq_false (by omega)
  simp only[map_nil,List.append_nil]at hdr
  simp (maxSteps:=400000) only[↓aG,aH,BEq.rfl,seval,hQ,hg0,hmn,hlt]
  have hd:done=aJ v:=by
   rw[hr]
   split
   ·exact hdr
   ·rename_i h6
    exact hdn.resolve_right h6
  rw[hd]
  exact I4 (k:=0) (ver:=ver) rfl rfl rfl rfl (congrArg (λo:Obj=>{ o with ver:=0 }) (Dp 1 1 _ 9 1 (aJ v) ver)) (p9 _ 0)
 | cons p qs=>
  obtain⟨c,qs',h1,h2,h3⟩:=gV (k:=qs.length) hrp
  simp only[List.cons.injEq]at h2
  obtain⟨hp1,rfl⟩:=h2
  simp only[length_cons]at hdl
  have hlt:((done.length:Int)<(ps.length:Int))=True:=eq_true (by omega)
  have hc:=gH _ _ _ h1
  simp only[List.length_drop]at hc
  have hnx:sM v i=(i+c:Nat):=BN (GH _ _ _ _ h1 (by omega))
  have zi:(0≤(i:Int))=True:=eq_true (by omega)
  have hil:i<v.length:=by omega
  have hgi:=List.getElem?_eq_getElem hil
  have hdi:=List.drop_eq_getElem_cons hil
  generalize v[i]=pn at hgi hdi
  have hname:nameOf p=pn.name:=by
   obtain⟨w,hw⟩:∃w,c=w+1:=⟨c-1,by omega⟩
   rw[hp1,hdi,hw];rfl
  by_cases h6:n.kind=6
  rotate_left 1
  ·simp (maxSteps:=400000) only[↓aG,aH,BEq.rfl,seval,hQ,hg0,hmn,hlt,h6]
   have hd:done=aJ v:=by rw[hr,if_neg h6,hdn.resolve_right h6]
   rw[hd]
   exact I4 (k:=0) (ver:=ver) rfl rfl rfl rfl (congrArg (λo:Obj=>{ o with ver:=0 }) (Dp 1 1 _ 9 1 (aJ v) ver)) (p9 _ 0)
  simp (maxSteps:=400000) only[↓aG,aH,BEq.rfl,seval,hQ,hg0,hmn,hlt,h6,↓iw,hnx,zi,hgi]
  have happ:List.map PV.str done++[PV.str pn.name]=List.map PV.str (done++[pn.name]):=by simp
  rw[happ]
  refine⟨by omega,by omega,by omega,hl,⟨by omega,by omega⟩,qs.length,by omega,i+c,ver+1,done++[pn.name],qs,rfl,?_,?_,?_,?_⟩
  ·simp only[length_append,length_cons,length_nil];omega
  ·rw[←hdr,List.map_cons,hname];simp
  ·rw[←List.drop_drop];exact h3
  ·simp only[length_append,length_cons,length_nil,Nat.zero_add,Int.natCast_add,Int.cast_ofNat_Int,Int.natCast_one]
theorem EL(v:Vl)(ho:One v)(hl:v.length≤1000000):av Tryz.prog 62 [aj v] [] (jT (aJ v)) []:=
 (vP v ho hl).froze rfl rfl (p9 _ 0)
def eG:d9:=λargs objs K=>match args with
 | [a0]=>gD aj a0 (HK.mk:HK λv=>(One v)∧(v.length≤1000000)∧K (jT (aJ v)) objs 0)
 | _=>False
theorem nT:aR Tryz.prog 62 (eG):=by
 intro args objs K h
 unfold eG at h
 split at h
 ·rename_i a0
  obtain⟨v,rfl,h1,h2,hk⟩:=h
  exact⟨_,_,_,.pure _ rfl (EL v h1 h2),hk⟩
 ·exact h.elim
end Lp
namespace Lp
open Go Go.Proofs
theorem Vr(a b:Vl)(ha:a.length≤1000000)(hb:b.length≤1000000):av Tryz.prog 16 [aj a,aj b] [] (.bool (decide (a=b))) []:=by
 refine Bz.bR (T:=bA Tryz.prog []) 0 hD (ay au) bE (by decide) λQ hQ=>?_
 by_cases hl:a.length=b.length
 rotate_left 1
 ·have hl':((a.length:Int)=(b.length:Int))=False:=eq_false (by omega)
  have hr:decide (a=b)=false:=decide_eq_false λh=>hl (by rw[h])
  (conv=>arg 4;cbv);simp (maxSteps:=400000) only[↓aG,aH,BEq.rfl,seval,hQ,hl',hr]
 have hl':((a.length:Int)=(b.length:Int))=True:=eq_true (by omega)
 (conv=>arg 4;cbv);simp (maxSteps:=400000) only[↓aG,aH,BEq.rfl,seval,hQ,hl']
 refine aQ (λm S=>∃i:Nat,i+m=a.length∧(∀j,j<i→a[j]?=b[j]?)∧S=⟨dD 26 [(0,aj a),(1,aj b),(5,.int .i64 i)],[]⟩) a.length ⟨0,by omega,λj h=>absurd h (by omega),?_⟩ ?_
 ·simp only[cB,keepR,Nat.reduceAdd,oO,Nat.reduceBEq,List.map_nil]
  rfl
 rintro m S ⟨i,him,hj,rfl⟩
 have zi:(0≤(i:Int))=True:=eq_true (by omega)
 rcases Nat.lt_or_ge i a.length with h | h
 rotate_left 1
 ·have hlt:((i:Int)<(a.length:Int))=False:=eq_false (by omega)
  have hab:a=b:=List.ext_getElem? λj=>by
   by_cases hji:j<i
   ·exact hj j hji
   ·rw[List.getElem?_eq_none (by omega),List.getElem?_eq_none (by omega)]
  have hr:decide (a=b)=true:=decide_eq_true hab
  simp (maxSteps:=400000) only[↓aG,aH,BEq.rfl,seval,hQ,hlt,hr]
 have hlt:((i:Int)<(a.length:Int))=True:=eq_true (by omega)
 have ga:=List.getElem?_eq_getElem h
 have gb:b[i]?=some (b[i]'(by omega)):=List.getElem?_eq_getElem (by omega)
 generalize a[i]=x at ga
 generalize b[i]'(by omega)=y at gb
 by_cases hxy:x=y
 ·have hxy':(x=y)=True:=eq_true hxy
  simp (maxSteps:=400000) only[↓aG,aH,BEq.rfl,seval,hQ,hlt,zi,ga,gb,hxy']
  refine⟨⟨by omega,by omega⟩,m-1,by omega,i+1,by omega,?_,by simp⟩
  intro j hji
  by_cases hjj:j=i
  ·subst hjj;rw[ga,gb,hxy]
  ·exact hj j (by omega)
 ·have hxy':(x=y)=False:=eq_false hxy
  have hr:decide (a=b)=false:=decide_eq_false λh=>hxy (by rw[h,gb]at ga;exact (Option.some.inj ga).symm)
  simp (maxSteps:=400000) only[↓aG,aH,BEq.rfl,seval,hQ,hlt,zi,ga,gb,hxy',hr]
def dL:d9:=λargs objs K=>match args with
 | [a0,a1]=>gD aj a0 (HK.mk:HK λa=>gD aj a1 (HK.mk:HK λb=>(a.length≤1000000)∧(b.length≤1000000)∧K (.bool (decide (a=b))) objs 0))
 | _=>False
theorem jW:aR Tryz.prog 16 (dL):=by
 intro args objs K h
 unfold dL at h
 split at h
 ·rename_i a0 a1
  obtain⟨a,rfl,b,rfl,h1,h2,hk⟩:=h
  exact⟨_,_,_,.pure _ rfl (Vr a b h1 h2),hk⟩
 ·exact h.elim
end Lp
namespace Lp
open Go Go.Proofs
theorem nmP(n:Nd)(nm:List UInt8):(aM n).putCells 2 [.str nm]=aM { n with name:=nm }:=rfl
theorem adu(n:Nd):(aM n).cells.length=6:=rfl
theorem GJ(l:List Vl){i:Nat}{v:Vl}(h:l[i]?=some v):(l.take (i+1)).flatten=(l.take i).flatten++v:=by
 rw[List.take_add_one,h];simp
theorem yh(l:List Vl){i:Nat}{v:Vl}(h:l[i]?=some v):(l.take i).flatten.length+v.length≤l.flatten.length:=by
 have e:l.flatten.length=((l.take (i+1)).flatten++(l.drop (i+1)).flatten).length:=by rw[←List.flatten_append,List.take_append_drop]
 rw[e,List.take_add_one,h];simp
theorem ZK:(PV.vM (Value.agg { toList:=[Value.int IntKind.i64 0,Value.int IntKind.i64 0,Value.string { data:={ toList:=[] } },Value.string { data:={ toList:=[] } },Value.bool false,Value.int IntKind.i64 0] })).cells.length=6:=rfl
theorem ZL:(PV.vM (Value.agg { toList:=[Value.int IntKind.i64 0,Value.int IntKind.i64 0,Value.string { data:={ toList:=[] } },Value.string { data:={ toList:=[] } },Value.bool false,Value.int IntKind.i64 0] })).cells.all PV.storable=true:=rfl
theorem Vs(n:Nat)(objs:List Obj)(v:Vl):(v.map aM).map (PV.bJ (kD 0 n objs))=v.map aM:=by
 rw[List.map_map]
 exact List.map_congr_left λx _=>rfl
theorem Vt(v:Vl)(ver:Nat)(t:TypeId)(rest:List Obj):fA 1 0 (⟨t,6,v.map aM,true,ver⟩::rest) (.aS 0 ver)=aj v:=by
 simp only[fA,Nat.not_lt_zero,if_false,kD,List.getElem?_cons_zero,Nat.le_refl,decide_true,Bool.true_and,beq_self_eq_true,if_true,Vs]
 rfl
end Lp
namespace Lp
open Go Go.Proofs
end Lp
namespace Lp
open Go Go.Proofs
theorem OE(a b:Vl)(ha:a.length≤1000000)(hb:b.length≤1000000):av Tryz.prog 87 [aj a,aj b] [] (.bool (decide (a=b))) []:=by
 refine mR.bR (T:=bA Tryz.prog []) 0 hD (ay au) bE (by decide) λQ hQ=>?_
 by_cases hl:a.length=b.length
 rotate_left 1
 ·have hl':((a.length:Int)=(b.length:Int))=False:=eq_false (by omega)
  have hr:decide (a=b)=false:=decide_eq_false λh=>hl (by rw[h])
  (conv=>arg 4;cbv);simp (maxSteps:=400000) only[↓aG,aH,BEq.rfl,seval,hQ,hl',hr]
 have hl':((a.length:Int)=(b.length:Int))=True:=eq_true (by omega)
 (conv=>arg 4;cbv);simp (maxSteps:=400000) only[↓aG,aH,BEq.rfl,seval,hQ,hl']
 refine aQ (λm S=>∃i:Nat,i+m=a.length∧(∀j,j<i→a[j]?=b[j]?)∧S=⟨dD 26 [(0,aj a),(1,aj b),(12,.int .i64 a.length),(13,.int .i64 i)],[]⟩) a.length ⟨0,by omega,λj h=>absurd h (by omega),?_⟩ ?_
 ·simp only[cB,keepR,Nat.reduceAdd,oO,Nat.reduceBEq,List.map_nil]
  rfl
 rintro m S ⟨i,him,hj,rfl⟩
 have zi:(0≤(i:Int))=True:=eq_true (by omega)
 rcases Nat.lt_or_ge i a.length with h | h
 rotate_left 1
 ·have hlt:((i:Int)<(a.length:Int))=False:=eq_false (by omega)
  have hab:a=b:=List.ext_getElem? λj=>by
   by_cases hji:j<i
   ·exact hj j hji
   ·rw[List.getElem?_eq_none (by omega),List.getElem?_eq_none (by omega)]
  have hr:decide (a=b)=true:=decide_eq_true hab
  simp (maxSteps:=400000) only[↓aG,aH,BEq.rfl,seval,hQ,hlt,hr]
 have hlt:((i:Int)<(a.length:Int))=True:=eq_true (by omega)
 have ga:=List.getElem?_eq_getElem h
 have gb:b[i]?=some (b[i]'(by omega)):=List.getElem?_eq_getElem (by omega)
 generalize a[i]=x at ga
 generalize b[i]'(by omega)=y at gb
 by_cases hxy:x=y
 ·have hxy':(x=y)=True:=eq_true hxy
  simp (maxSteps:=400000) only[↓aG,aH,BEq.rfl,seval,hQ,hlt,zi,ga,gb,hxy']
  refine⟨⟨by omega,by omega⟩,m-1,by omega,i+1,by omega,?_,by simp⟩
  intro j hji
  by_cases hjj:j=i
  ·subst hjj;rw[ga,gb,hxy]
  ·exact hj j (by omega)
 ·have hxy':(x=y)=False:=eq_false hxy
  have hr:decide (a=b)=false:=decide_eq_false λh=>hxy (by rw[h,gb]at ga;exact (Option.some.inj ga).symm)
  simp (maxSteps:=400000) only[↓aG,aH,BEq.rfl,seval,hQ,hlt,zi,ga,gb,hxy',hr]
def yj:d9:=λargs objs K=>match args with
 | [a0,a1]=>gD aj a0 (HK.mk:HK λa=>gD aj a1 (HK.mk:HK λb=>(a.length≤1000000)∧(b.length≤1000000)∧K (.bool (decide (a=b))) objs 0))
 | _=>False
theorem LY:aR Tryz.prog 87 (yj):=by
 intro args objs K h
 unfold yj at h
 split at h
 ·rename_i a0 a1
  obtain⟨a,rfl,b,rfl,h1,h2,hk⟩:=h
  exact⟨_,_,_,.pure _ rfl (OE a b h1 h2),hk⟩
 ·exact h.elim
theorem LZ(a b:Vl)(ha:a.length≤1000000)(hb:b.length≤1000000):av Tryz.prog 65 [aj a,aj b] [] (.bool (decide (a=b))) []:=by
 refine Rj.bR (T:=bA Tryz.prog [(87,yj)]) 0 hD (ay (af LY au)) bE (by decide) λQ hQ=>?_
 (conv=>arg 4;cbv);simp (maxSteps:=400000) only[↓aG,aH,BEq.rfl,seval,hQ,↓yj]
 exact⟨ha,hb⟩
def dF:d9:=λargs objs K=>match args with
 | [a0,a1]=>gD aj a0 (HK.mk:HK λa=>gD aj a1 (HK.mk:HK λb=>(a.length≤1000000)∧(b.length≤1000000)∧K (.bool (decide (a=b))) objs 0))
 | _=>False
theorem rQ:aR Tryz.prog 65 (dF):=by
 intro args objs K h
 unfold dF at h
 split at h
 ·rename_i a0 a1
  obtain⟨a,rfl,b,rfl,h1,h2,hk⟩:=h
  exact⟨_,_,_,.pure _ rfl (LZ a b h1 h2),hk⟩
 ·exact h.elim
theorem Wl(l:List (FuncId×d9))(n:Nat):(((bA Tryz.prog l).inner n).fn=lu l)∧(((bA Tryz.prog l).inner n).QW.fn=lu l)∧(((bA Tryz.prog l).inner n).nx=n):=⟨rfl,rfl,rfl⟩
theorem uM(v:Vl)(hr:Rt v)(hl:v.length≤1000000):∃ps:List Vl,ax v=ps.map gI∧(∀p∈ps,Rt (gI p))∧ps.length≤v.length∧(aJ v=ps.map nameOf∨(∃n r,v=n::r∧n.kind≠6))∧Gives Tryz.prog 107 [.addr (aj v)] (ps.map rowOf):=by
 obtain⟨n,r,rfl,_⟩:=bS hr.name hr.one.ne
 obtain⟨h1,h2,ps,h3,h4,h5,h6,h7⟩:=hr.parts
 obtain⟨q1,q2⟩:=dB h3
 have h8:=dW _ _ _ h3
 have h9:=iY _ _ _ h3
 refine⟨ps,by simp only[ax,q1],h7,by simp only[List.length_cons];omega,?_,wR (n::r) n r ps rfl (by omega) h2 h3⟩
 by_cases hk:n.kind=6
 ·left;simp only[aJ,if_pos hk,q2]
 ·right;exact⟨n,r,rfl,hk⟩
theorem yo(ps:List Vl):∀y∈ps.map rowOf,y.length=2:=by
 intro y hy
 obtain⟨p,_,rfl⟩:=List.mem_map.1 hy
 rfl
theorem yt{ps:List Vl}{i:Nat}{args:List PV}(h:(ps.map rowOf)[i]?=some args):∃p,ps[i]?=some p∧args=[.str (nameOf p),aj (gI p)]:=by
 rw[List.getElem?_map]at h
 cases hx:ps[i]? with
 | none=>rw[hx]at h;simp at h
 | some p=>rw[hx]at h;exact⟨p,rfl,by simpa[rowOf] using h.symm⟩
def kU:d9:=λargs objs K=>match args with
 | [a0]=>gD aj a0 (HK.mk:HK λv=>K (.fn 107 [] [.addr (aj v)]) objs 0)
 | _=>False
theorem rq:aR Tryz.prog 80 (kU):=by
 intro args objs K h
 unfold kU at h
 split at h
 ·rename_i a0
  obtain⟨v,rfl,hk⟩:=h
  exact⟨_,_,_,.pure _ rfl (Kn v),hk⟩
 ·exact h.elim
end Lp
namespace Lp
open Go Go.Lib
open List (length_cons length_drop length_take)
def XK(b0:Nat):Bool:=
 decide (b0<128) || (firstT b0 % 8==1 && (decide (b0<194) || decide (245≤b0))) || (firstT b0 % 8==2 && accLo (firstT b0 / 16)==128 && accHi (firstT b0 / 16)==191 && decide (194≤b0) && decide (b0<224)) ||
  (firstT b0 % 8==3 && accLo (firstT b0 / 16)==(if b0=224 then 160 else 128) && accHi (firstT b0 / 16)==(if b0=237 then 159 else 191) && decide (224≤b0) && decide (b0<240)) ||
  (firstT b0 % 8==4 && accLo (firstT b0 / 16)==(if b0=240 then 144 else 128) && accHi (firstT b0 / 16)==(if b0=244 then 143 else 191) && decide (240≤b0) && decide (b0<245))
theorem RH:(List.range 256).all XK=true:=by decide
theorem RI(b0:Nat)(h:b0<256)(h':128≤b0):(firstT b0 % 8=1∧(b0<194∨245≤b0))∨(firstT b0 % 8=2∧accLo (firstT b0 / 16)=128∧accHi (firstT b0 / 16)=191∧194≤b0∧b0<224)∨
  (firstT b0 % 8=3∧accLo (firstT b0 / 16)=(if b0=224 then 160 else 128)∧accHi (firstT b0 / 16)=(if b0=237 then 159 else 191)∧224≤b0∧b0<240)∨
  (firstT b0 % 8=4∧accLo (firstT b0 / 16)=(if b0=240 then 144 else 128)∧accHi (firstT b0 / 16)=(if b0=244 then 143 else 191)∧240≤b0∧b0<245):=by
 have:=List.all_eq_true.1 RH b0 (List.mem_range.2 h)
 simp only[XK,Bool.or_eq_true,Bool.and_eq_true,decide_eq_true_eq,beq_iff_eq,and_assoc]at this
 rcases this with (((g | g) | g) | g) | g
 ·omega
 ·exact .inl g
 ·exact .inr (.inl g)
 ·exact .inr (.inr (.inl g))
 ·exact .inr (.inr (.inr g))
theorem XL(c:UInt8)(t:List UInt8):utf (c::t)=(dw (c::t) !=0 && utf ((c::t).drop (dw (c::t)))):=by
 unfold utf
 rw[length_cons,Fx]
 simp only[List.isEmpty_cons,Bool.false_or]
 by_cases h:dw (c::t)=0
 ·simp[h]
 ·congr 1
  exact CF _ _ _ (by simp only[length_drop,length_cons];omega) (Nat.le_refl _)
theorem u8n(c:UInt8)(n:Nat)(h:n<256):c=UInt8.ofNat n↔c.toNat=n:=by
 constructor
 ·rintro rfl;simp[UInt8.toNat_ofNat'];omega
 ·intro e;rw[←e];simp
theorem RJ(c:UInt8)(t:List UInt8)(h:128≤c.toNat) :
  checkN (t.length+1) (t.getD 0 0).toNat (t.getD 1 0).toNat (t.getD 2 0).toNat (firstT c.toNat % 8) (accLo (firstT c.toNat / 16)) (accHi (firstT c.toNat / 16))=
   if dw (c::t)=0 then none else some (dw (c::t)):=by
 have e1:(c<128)↔c.toNat<128:=UInt8.lt_iff_toNat_lt
 have e2:(194≤c)↔194≤c.toNat:=UInt8.le_iff_toNat_le
 have e3:(c<224)↔c.toNat<224:=UInt8.lt_iff_toNat_lt
 have e4:(224≤c)↔224≤c.toNat:=UInt8.le_iff_toNat_le
 have e5:(c<240)↔c.toNat<240:=UInt8.lt_iff_toNat_lt
 have e6:(240≤c)↔240≤c.toNat:=UInt8.le_iff_toNat_le
 have e7:(c<245)↔c.toNat<245:=UInt8.lt_iff_toNat_lt
 have e8:c=224↔c.toNat=224:=u8n c 224 (by decide)
 have e9:c=237↔c.toNat=237:=u8n c 237 (by decide)
 have ea:c=240↔c.toNat=240:=u8n c 240 (by decide)
 have eb:c=244↔c.toNat=244:=u8n c 244 (by decide)
 have hc:∀i,fK t i=true↔i<t.length∧128≤(t.getD i 0).toNat∧(t.getD i 0).toNat<192:=by
  intro i
  unfold fK
  cases hg:t[i]? with
  | none=>
   have:=List.getElem?_eq_none_iff.1 hg
   simp;omega
  | some d=>
   have hl:=(List.getElem?_eq_some_iff.1 hg).1
   have hd:t.getD i 0=d:=by simp[List.getD,hg]
   rw[hd]
   simp only[Bool.and_eq_true,decide_eq_true_eq]
   have x1:(128≤d)↔128≤d.toNat:=UInt8.le_iff_toNat_le
   have x2:(d<192)↔d.toNat<192:=UInt8.lt_iff_toNat_lt
   rw[x1,x2]
   exact⟨λg=>⟨hl,g⟩,λg=>g.2⟩
 have hh:t.headD 0=t.getD 0 0:=by cases t<;>rfl
 have f1:(t.getD 0 0<160)↔(t.getD 0 0).toNat<160:=UInt8.lt_iff_toNat_lt
 have f2:(160≤t.getD 0 0)↔160≤(t.getD 0 0).toNat:=UInt8.le_iff_toNat_le
 have f3:(t.getD 0 0<144)↔(t.getD 0 0).toNat<144:=UInt8.lt_iff_toNat_lt
 have f4:(144≤t.getD 0 0)↔144≤(t.getD 0 0).toNat:=UInt8.le_iff_toNat_le
 simp only[dw,e1,e2,e3,e4,e5,e6,e7,e8,e9,ea,eb,hc,hh,f1,f2,f3,f4]
 have hn:=c.toNat_lt
 generalize c.toNat=n at *
 generalize (t.getD 0 0).toNat=b1 at *
 generalize (t.getD 1 0).toNat=b2 at *
 generalize (t.getD 2 0).toNat=b3 at *
 generalize t.length=L at *
 clear e1 e2 e3 e4 e5 e6 e7 e8 e9 ea eb hc f1 f2 f3 f4 hh
 obtain⟨R,hR⟩:∃R,(if n<128 then 1 else if 194≤n∧n<224∧0<L∧128≤b1∧b1<192 then 2
  else if 224≤n∧n<240∧(0<L∧128≤b1∧b1<192)∧1<L∧128≤b2∧b2<192 then (if n=224∧b1<160∨n=237∧160≤b1 then 0 else 3)
  else if 240≤n∧n<245∧(0<L∧128≤b1∧b1<192)∧(1<L∧128≤b2∧b2<192)∧2<L∧128≤b3∧b3<192 then (if n=240∧b1<144∨n=244∧144≤b1 then 0 else 4) else 0)=R:=⟨_,rfl⟩
 rw[hR]
 rw[if_neg (by omega)]at hR
 rcases RI n hn h with ⟨k1,k2⟩ | ⟨k1,k2,k3,k4,k5⟩ | ⟨k1,k2,k3,k4,k5⟩ | ⟨k1,k2,k3,k4,k5⟩
 ·rw[k1]
  rw[if_neg (by omega),if_neg (by omega),if_neg (by omega)]at hR
  subst hR;rfl
 ·rw[k1,k2,k3]
  simp only[checkN,if_true]
  by_cases g:0<L∧128≤b1∧b1<192
  ·rw[if_pos ⟨k4,k5,g⟩]at hR
   subst hR
   rw[if_neg (by omega)];rfl
  ·rw[if_neg (by omega),if_neg (by omega),if_neg (by omega)]at hR
   subst hR
   rw[if_pos (by omega)];rfl
 ·rw[k1,k2,k3]
  simp only[checkN,Nat.reduceEqDiff,if_false,if_true]
  rw[if_neg (by omega)]at hR
  by_cases g:(0<L∧128≤b1∧b1<192)∧1<L∧128≤b2∧b2<192
  ·rw[if_pos ⟨k4,k5,g⟩]at hR
   by_cases g2:n=224∧b1<160∨n=237∧160≤b1
   ·rw[if_pos g2]at hR
    subst hR
    rw[if_pos (by split<;>split<;>omega)];rfl
   ·rw[if_neg g2]at hR
    subst hR
    rw[if_neg (by split<;>split<;>omega)];rfl
  ·rw[if_neg (λx=>g x.2.2),if_neg (by omega)]at hR
   subst hR
   rw[if_pos (by split<;>split<;>omega)];rfl
 ·rw[k1,k2,k3]
  simp only[checkN,Nat.reduceEqDiff,if_false,if_true]
  rw[if_neg (by omega),if_neg (by omega)]at hR
  by_cases g:(0<L∧128≤b1∧b1<192)∧(1<L∧128≤b2∧b2<192)∧2<L∧128≤b3∧b3<192
  ·rw[if_pos ⟨k4,k5,g⟩]at hR
   by_cases g2:n=240∧b1<144∨n=244∧144≤b1
   ·rw[if_pos g2]at hR
    subst hR
    rw[if_pos (by split<;>split<;>omega)];rfl
   ·rw[if_neg g2]at hR
    subst hR
    rw[if_neg (by split<;>split<;>omega)];rfl
  ·rw[if_neg (λx=>g x.2.2)]at hR
   subst hR
   rw[if_pos (by split<;>split<;>omega)];rfl
theorem Am:∀(k:Nat) (l:List UInt8),l.length≤k→validD l=utf l
 | _,[],_=>rfl
 | 0,_::_,h=>by simp at h
 | k+1,c::t,h=>by
  simp only[length_cons]at h
  rw[XL]
  by_cases hc:c.toNat<128
  ·have hr:dw (c::t)=1:=by
     simp only[dw];rw[if_pos (UInt8.lt_iff_toNat_lt.2 hc)]
   rw[validD_cons c t hc,hr,Am k t (by omega)];simp
  ·rw[validD_lead _ (by simp) (by simpa using hc)]
   have e:=RJ c t (by omega)
   simp only[List.getD_cons_zero,List.getD_cons_succ,length_cons]at e ⊢
   rw[e]
   by_cases h0:dw (c::t)=0
   ·rw[if_pos h0,h0];rfl
   ·rw[if_neg h0]
    have:((c::t).drop (dw (c::t))).length≤k:=by simp only[length_drop,length_cons];omega
    rw[show (dw (c::t) !=0)=true by simpa using h0,Bool.true_and]
    exact Am k _ this
theorem Vu(l:List UInt8):validD l=utf l:=Am _ l (Nat.le_refl _)
def l_(x:Nat):Bool:=decide (48≤x) && decide (x≤57)
theorem El(n b0 b1 b2 b3:Nat)(h:(decodeN n b0 b1 b2 b3).1<128):b0<128∧decodeN n b0 b1 b2 b3=(b0,1):=by
 unfold decodeN at *
 split at h
 ·rename_i h0;rw[if_pos h0];exact⟨h0,rfl⟩
 ·exfalso
  repeat' split at h
  all_goals (simp at h;try omega)
theorem Em(n b0 b1 b2 b3:Nat)(h:b0<128):decodeN n b0 b1 b2 b3=(b0,1):=by unfold decodeN;rw[if_pos h]
theorem Fa{x:Nat}(h:l_ x=true):x<128:=by simp[l_]at h;omega
def Fb(l:List UInt8)(i:Nat):Prop:=∀j,i≤j→j<l.length→l_ (l.getD j 0).toNat=true
theorem OG(s:ByteArray):∀(f pos:Nat),s.data.toList.length-pos≤f→(idxFuncFrom l_ false s f pos=-1↔Fb s.data.toList pos)
 | 0,pos,h=>by
  simp only[idxFuncFrom,true_iff]
  intro j h1 h2;omega
 | f+1,pos,h=>by
  unfold idxFuncFrom
  rw[size_eq]
  split
  ·rename_i hp
   rw[decode_N]
   generalize hd:decodeN _ _ _ _ _=d
   split
   ·rename_i hf
    have:¬ Fb s.data.toList pos:=λhg=>by
     have g:=hg pos (Nat.le_refl _) hp
     rw[Em _ _ _ _ _ (Fa g)]at hd
     rw[←hd]at hf
     simp only at hf
     rw[g]at hf;cases hf
    simp only[this,iff_false];omega
   ·rename_i hf
    simp only[Bool.not_eq_false]at hf
    have hlt:=Fa hf
    rw[←hd]at hlt
    obtain⟨g1,g2⟩:=El _ _ _ _ _ hlt
    rw[g2]at hd
    subst hd
    rw[OG s f (pos+1) (by omega)]
    constructor
    ·intro hh j h1 h2
     rcases Nat.eq_or_lt_of_le h1 with rfl | h1
     ·exact hf
     ·exact hh j h1 h2
    ·intro hh j h1 h2;exact hh j (by omega) h2
  ·rename_i hp
   simp only[true_iff]
   intro j h1 h2;omega
theorem GK(l:List UInt8)(h:(decodeLastL l).1<128):l≠[]∧(l.getD (l.length-1) 0).toNat<128∧decodeLastL l=((l.getD (l.length-1) 0).toNat,1):=by
 unfold decodeLastL at *
 split at h
 ·simp[Utf8.runeError]at h
 ·rename_i hne
  rw[if_neg hne]
  split at h
  ·rename_i h1;rw[if_pos h1];exact⟨hne,h1,rfl⟩
  ·rename_i h1
   exfalso
   simp only at h
   split at h
   ·rename_i h2
    rw[decodeL_N]at h h2
    obtain⟨g1,g2⟩:=El _ _ _ _ _ h
    rw[g2]at h2
    simp only[getD_dropU]at g1
    have:lastStart l+0=l.length-1:=by omega
    rw[this]at g1
    exact h1 g1
   ·simp[Utf8.runeError]at h
theorem Kq(s:ByteArray):∀(f i:Nat),i≤f→i≤s.data.toList.length→lastIdxFuncFrom l_ false s f i=-1→∀j,j<i→l_ (s.data.toList.getD j 0).toNat=true
 | 0,i,h,_,_,j,hj=>by omega
 | f+1,i,h,hi,hx,j,hj=>by
  unfold lastIdxFuncFrom at hx
  rw[if_pos (by omega)]at hx
  split at hx
  ·omega
  ·rename_i hf
   simp only[Bool.not_eq_false]at hf
   obtain⟨g0,g1,g2⟩:=GK _ (Fa hf)
   rw[g2]at hf hx
   have hl:(s.data.toList.take i).length=i:=by rw[length_take];omega
   rw[hl]at hf hx
   have e:(s.data.toList.take i).getD (i-1) 0=s.data.toList.getD (i-1) 0:=by
    simp only[List.getD,List.getElem?_take];rw[if_pos (by omega)]
   rw[e]at hf
   rcases Nat.lt_or_ge j (i-1) with h1 | h1
   ·exact Kq s f (i-1) (by omega) (by omega) hx j h1
   ·have:j=i-1:=by omega
    subst this;exact hf
theorem XM(l:List UInt8):vQ l=true↔Fb l 0:=by
 unfold vQ Fb
 rw[List.all_eq_true]
 have key:∀c:UInt8,(decide (48≤c) && decide (c≤57))=l_ c.toNat:=λc=>by
  have x1:(48≤c)↔48≤c.toNat:=UInt8.le_iff_toNat_le
  have x2:(c≤57)↔c.toNat≤57:=UInt8.le_iff_toNat_le
  simp only[l_,x1,x2]
 constructor
 ·intro h j _ hj
  rw[←key]
  have:l.getD j 0=l[j]:=by simp[List.getD,hj]
  rw[this]
  exact h _ (List.getElem_mem hj)
 ·intro h c hc
  obtain⟨j,hj,rfl⟩:=List.mem_iff_getElem.1 hc
  rw[key]
  have:l.getD j 0=l[j]:=by simp[List.getD,hj]
  rw[←this]
  exact h j (Nat.zero_le _) hj
theorem En(p:Nat→Bool)(truth:Bool)(s:ByteArray):∀(f i:Nat),i≤s.size→lastIdxFuncFrom p truth s f i=-1∨(0≤lastIdxFuncFrom p truth s f i∧lastIdxFuncFrom p truth s f i<i)
 | 0,_,_=>.inl rfl
 | f+1,i,hi=>by
  unfold lastIdxFuncFrom
  split
  ·rename_i h0
   have hk:=decodeLastL_width (s.data.toList.take i) (by rw[length_take,←size_eq];omega)
   rw[length_take,←size_eq,Nat.min_eq_left hi]at hk
   split
   ·exact .inr ⟨by omega,by omega⟩
   ·rcases En p truth s f (i-(decodeLastL (s.data.toList.take i)).2) (by omega) with h | ⟨h1,h2⟩
    ·exact .inl h
    ·exact .inr ⟨h1,by omega⟩
  ·exact .inl rfl
theorem RL(l:List UInt8):(trimF l_ ⟨⟨l⟩⟩=⟨⟨[]⟩⟩)↔vQ l=true:=by
 have hi:=OG ⟨⟨l⟩⟩ l.length 0 (by simp)
 rw[XM,←(show (({ data:={ toList:=l } }:ByteArray).data.toList)=l from rfl),←hi]
 have hidx:idxFunc l_ false ⟨⟨l⟩⟩=idxFuncFrom l_ false ⟨⟨l⟩⟩ l.length 0:=rfl
 rw[←hidx]
 unfold trimF trimLeftF
 constructor
 ·intro h
  refine Classical.byContradiction λhne=>?_
  rw[if_neg hne]at h
  have hr:=idxFunc_range l_ false ⟨⟨l⟩⟩
  obtain⟨r1,r2⟩:=hr.resolve_left hne
  rw[size_eq]at r2
  generalize hk:(idxFunc l_ false ⟨⟨l⟩⟩).toNat=k at *
  have hkl:k<l.length:=by simp at r2;omega
  rw[extract_from]at h
  simp only at h
  have hnd:l_ (l.getD k 0).toNat=false:=by
   have key:∀f pos,idxFuncFrom l_ false ⟨⟨l⟩⟩ f pos≠-1→l_ (Utf8.decode ⟨⟨l⟩⟩ (idxFuncFrom l_ false ⟨⟨l⟩⟩ f pos).toNat).1=false:=by
    intro f
    induction f with
    | zero=>intro pos h;exact absurd rfl h
    | succ f ih=>
     intro pos h
     unfold idxFuncFrom at h ⊢
     split at h
     ·rename_i hp
      rw[if_pos hp]
      split at h
      ·rename_i hf;rw[if_pos hf];simpa using hf
      ·rename_i hf;rw[if_neg hf];exact ih _ h
     ·exact absurd rfl h
   have:=key _ _ hne
   rw[show (⟨⟨l⟩⟩:ByteArray).size=l.length from rfl,←hidx,hk,decode_N]at this
   cases hb:l_ (l.getD k 0).toNat with
   | false=>rfl
   | true=>
    have hlow:=Fa hb
    rw[Em _ _ _ _ _ hlow]at this
    simp only at this
    rw[hb]at this;cases this
  unfold trimRightF at h
  rw[extract_upto]at h
  have hlen:=congrArg (λb:ByteArray=>b.data.toList.length) h
  simp only[length_take,length_drop,List.length_nil]at hlen
  have hz:rightEndF l_ ⟨(l.drop k).toArray⟩=0:=by omega
  unfold rightEndF at hz
  have hlt:=En l_ false ⟨(l.drop k).toArray⟩ (l.drop k).length (l.drop k).length (by rw[size_eq];exact Nat.le_refl _)
  have hli:lastIdxFunc l_ false ⟨(l.drop k).toArray⟩=lastIdxFuncFrom l_ false ⟨(l.drop k).toArray⟩ (l.drop k).length (l.drop k).length:=rfl
  split at hz
  ·rename_i h0
   rw[hli]at h0 hz
   obtain⟨h1,h2⟩:=hlt.resolve_left (by omega)
   have h3:1≤(decodeGoB ((⟨(l.drop k).toArray⟩:ByteArray).extract (lastIdxFuncFrom l_ false ⟨(l.drop k).toArray⟩ (l.drop k).length (l.drop k).length).toNat (⟨(l.drop k).toArray⟩:ByteArray).size)).2:=by
    unfold decodeGoB
    rw[if_neg]
    ·exact width_pos _ _
    ·rw[extract_from,size_eq]
     simp only[length_drop]at h2 ⊢
     omega
   omega
  ·rename_i h0
   rw[hli]at h0
   have h1:=hlt.resolve_right (by omega)
   have:=Kq ⟨(l.drop k).toArray⟩ _ _ (Nat.le_refl _) (Nat.le_refl _) h1 0 (by rw[length_drop];omega)
   simp only[getD_dropU]at this
   rw[Nat.add_zero,hnd]at this
   cases this
 ·intro h
  rw[if_pos h]
  rfl
theorem rR{α:Type}(p:α→Bool)(l:List α):(l.dropWhile p).length≤l.length:=(List.dropWhile_suffix p).length_le
theorem GL{α:Type}(p:α→Bool):∀l:List α,l.dropWhile p=l↔(∀x,l.head?=some x→p x=false)
 | []=>by simp
 | x::t=>by
  rw[List.dropWhile_cons]
  split
  ·rename_i h
   constructor
   ·intro e
    have:=congrArg List.length e
    have h2:=rR p t
    simp at this;omega
   ·intro g;rw[g x rfl]at h;cases h
  ·rename_i h;simpa using h
theorem RN(l:List UInt8)(c:UInt8):trimB l c=l↔l.head?≠some c∧l.getLast?≠some c:=by
 have h1:∀m:List UInt8,(m.dropWhile (·==c)=m)↔m.head?≠some c:=λm=>by
  rw[GL]
  constructor
  ·intro h e;simpa using h c e
  ·intro h x hx;rw[hx]at h;simpa using h
 unfold trimB trimLeftB
 have hlen:(trimRightB l c).length≤l.length:=by
  unfold trimRightB
  have:=rR (·==c) l.reverse
  simpa using this
 have hr:trimRightB l c=l↔l.getLast?≠some c:=by
  unfold trimRightB
  rw[List.reverse_eq_iff,h1,List.head?_reverse]
 constructor
 ·intro h
  have h2:=rR (·==c) (trimRightB l c)
  have h3:=congrArg List.length h
  have h4:trimRightB l c=l:=by
   unfold trimRightB at *
   have:=List.dropWhile_suffix (l:=l.reverse) (p:=(·==c))
   have e:=this.eq_of_length (by simp at *;omega)
   rw[e,List.reverse_reverse]
  rw[h4]at h
  exact⟨(h1 l).1 h,hr.1 h4⟩
 ·rintro⟨g1,g2⟩
  rw[hr.2 g2];exact (h1 l).2 g1
end Lp
namespace Go.Proofs
open Go.Shelf
def Tryz.OH:Go.Shelf.Ren:=⟨λ| 160=>124 | 232=>135 | 231=>134 | 227=>136 | 234=>138 | 233=>137 | 236=>140 | 235=>139 | 228=>156 | 271=>159 | 151=>158 | 197=>157 | 120=>169 | 152=>168 | 260=>167 | 137=>171 | 119=>172 | 224=>173 | 225=>174 | 217=>175 | 266=>176 | n=>n,λ| 9=>9 | 4=>4 | 3=>3 | 5=>5 | 117=>152 | 116=>151 | 0=>0 | 124=>155 | 21=>21 | 105=>171 | 46=>122 | 119=>118 | 139=>121 | 138=>120 | n=>n,λ| 3=>0 | 4=>1 | n=>n⟩
theorem Tryz.TL:Go.Proofs.Lays.n160 Tryz.prog Tryz.OH:={
 mixed:=by kernel_rfl
 f119:=Tryz.func172.trans (congrArg some (by kernel_rfl))
 f120:=Tryz.func169.trans (congrArg some (by kernel_rfl))
 f137:=Tryz.func171.trans (congrArg some (by kernel_rfl))
 f151:=Tryz.func158.trans (congrArg some (by kernel_rfl))
 f152:=Tryz.func168.trans (congrArg some (by kernel_rfl))
 f160:=Tryz.func124.trans (congrArg some (by kernel_rfl))
 f197:=Tryz.func157.trans (congrArg some (by kernel_rfl))
 f217:=Tryz.func175.trans (congrArg some (by kernel_rfl))
 f224:=Tryz.func173.trans (congrArg some (by kernel_rfl))
 f225:=Tryz.func174.trans (congrArg some (by kernel_rfl))
 f227:=Tryz.func136.trans (congrArg some (by kernel_rfl))
 f228:=Tryz.func156.trans (congrArg some (by kernel_rfl))
 f231:=Tryz.func134.trans (congrArg some (by kernel_rfl))
 f232:=Tryz.func135.trans (congrArg some (by kernel_rfl))
 f233:=Tryz.func137.trans (congrArg some (by kernel_rfl))
 f234:=Tryz.func138.trans (congrArg some (by kernel_rfl))
 f235:=Tryz.func139.trans (congrArg some (by kernel_rfl))
 f236:=Tryz.func140.trans (congrArg some (by kernel_rfl))
 f260:=Tryz.func167.trans (congrArg some (by kernel_rfl))
 f266:=Tryz.func176.trans (congrArg some (by kernel_rfl))
 f271:=Tryz.func159.trans (congrArg some (by kernel_rfl))
 t0:=Tryz.underlying0
 a0:=Tryz.isAgg0
 z0:=Tryz.sizeOf0
 v0:=Tryz.zeroValue0
 t3:=Tryz.underlying3
 a3:=Tryz.isAgg3
 z3:=Tryz.sizeOf3
 v3:=Tryz.zeroValue3
 t4:=Tryz.underlying4
 a4:=Tryz.isAgg4
 z4:=Tryz.sizeOf4
 v4:=Tryz.zeroValue4
 t5:=Tryz.underlying5
 a5:=Tryz.isAgg5
 z5:=Tryz.sizeOf5
 v5:=Tryz.zeroValue5
 t9:=Tryz.underlying9
 a9:=Tryz.isAgg9
 z9:=Tryz.sizeOf9
 v9:=Tryz.zeroValue9
 t21:=Tryz.underlying21
 a21:=Tryz.isAgg21
 z21:=Tryz.sizeOf21
 v21:=Tryz.zeroValue21
 t46:=Tryz.underlying122
 a46:=Tryz.isAgg122
 z46:=Tryz.sizeOf122
 v46:=Tryz.zeroValue122
 t105:=Tryz.underlying171
 a105:=Tryz.isAgg171
 z105:=Tryz.sizeOf171
 v105:=Tryz.zeroValue171
 t116:=Tryz.underlying151
 a116:=Tryz.isAgg151
 z116:=Tryz.sizeOf151
 t117:=Tryz.underlying152
 a117:=Tryz.isAgg152
 z117:=Tryz.sizeOf152
 v117:=Tryz.zeroValue152
 t119:=Tryz.underlying118
 a119:=Tryz.isAgg118
 z119:=Tryz.sizeOf118
 t124:=Tryz.underlying155
 a124:=Tryz.isAgg155
 z124:=Tryz.sizeOf155
 v124:=Tryz.zeroValue155
 t138:=Tryz.underlying120
 a138:=Tryz.isAgg120
 z138:=Tryz.sizeOf120
 v138:=Tryz.zeroValue120
 t139:=Tryz.underlying121
 a139:=Tryz.isAgg121
 z139:=Tryz.sizeOf121
 v139:=Tryz.zeroValue121
 g3:=by kernel_rfl
 g4:=by kernel_rfl }
def Tryz.OI:Go.Shelf.Ren:=⟨λ| 190=>114 | 125=>130 | 258=>129 | 128=>150 | 129=>151 | 302=>142 | 303=>143 | 304=>144 | 305=>145 | 306=>146 | 307=>147 | 308=>103 | 309=>148 | 310=>149 | 333=>160 | 329=>161 | 330=>162 | 334=>163 | 335=>164 | 336=>125 | 344=>170 | n=>n,λ| 31=>75 | 9=>9 | 3=>3 | 46=>122 | 0=>0 | 51=>164 | 53=>138 | 4=>4 | 183=>158 | 182=>157 | 131=>90 | 5=>5 | 218=>174 | 222=>178 | 228=>182 | 229=>183 | n=>n,λ| n=>n⟩
theorem Tryz.TM:Go.Proofs.Lays.n190 Tryz.prog Tryz.OI:={
 mixed:=by kernel_rfl
 f125:=Tryz.func130.trans (congrArg some (by kernel_rfl))
 f128:=Tryz.func150.trans (congrArg some (by kernel_rfl))
 f129:=Tryz.func151.trans (congrArg some (by kernel_rfl))
 f190:=Tryz.func114.trans (congrArg some (by kernel_rfl))
 f258:=Tryz.func129.trans (congrArg some (by kernel_rfl))
 f302:=Tryz.func142.trans (congrArg some (by kernel_rfl))
 f303:=Tryz.func143.trans (congrArg some (by kernel_rfl))
 f304:=Tryz.func144.trans (congrArg some (by kernel_rfl))
 f305:=Tryz.func145.trans (congrArg some (by kernel_rfl))
 f306:=Tryz.func146.trans (congrArg some (by kernel_rfl))
 f307:=Tryz.func147.trans (congrArg some (by kernel_rfl))
 f308:=Tryz.func103.trans (congrArg some (by kernel_rfl))
 f309:=Tryz.func148.trans (congrArg some (by kernel_rfl))
 f310:=Tryz.func149.trans (congrArg some (by kernel_rfl))
 f329:=Tryz.func161.trans (congrArg some (by kernel_rfl))
 f330:=Tryz.func162.trans (congrArg some (by kernel_rfl))
 f333:=Tryz.func160.trans (congrArg some (by kernel_rfl))
 f334:=Tryz.func163.trans (congrArg some (by kernel_rfl))
 f335:=Tryz.func164.trans (congrArg some (by kernel_rfl))
 f336:=Tryz.func125.trans (congrArg some (by kernel_rfl))
 f344:=Tryz.func170.trans (congrArg some (by kernel_rfl))
 t0:=Tryz.underlying0
 a0:=Tryz.isAgg0
 z0:=Tryz.sizeOf0
 v0:=Tryz.zeroValue0
 t3:=Tryz.underlying3
 a3:=Tryz.isAgg3
 z3:=Tryz.sizeOf3
 v3:=Tryz.zeroValue3
 t4:=Tryz.underlying4
 a4:=Tryz.isAgg4
 z4:=Tryz.sizeOf4
 v4:=Tryz.zeroValue4
 t5:=Tryz.underlying5
 a5:=Tryz.isAgg5
 z5:=Tryz.sizeOf5
 v5:=Tryz.zeroValue5
 t9:=Tryz.underlying9
 a9:=Tryz.isAgg9
 z9:=Tryz.sizeOf9
 v9:=Tryz.zeroValue9
 t31:=Tryz.underlying75
 a31:=Tryz.isAgg75
 z31:=Tryz.sizeOf75
 v31:=Tryz.zeroValue75
 t46:=Tryz.underlying122
 a46:=Tryz.isAgg122
 z46:=Tryz.sizeOf122
 v46:=Tryz.zeroValue122
 t51:=Tryz.underlying164
 a51:=Tryz.isAgg164
 z51:=Tryz.sizeOf164
 v51:=Tryz.zeroValue164
 t53:=Tryz.underlying138
 a53:=Tryz.isAgg138
 z53:=Tryz.sizeOf138
 v53:=Tryz.zeroValue138
 t131:=Tryz.underlying90
 a131:=Tryz.isAgg90
 z131:=Tryz.sizeOf90
 v131:=Tryz.zeroValue90
 t182:=Tryz.underlying157
 a182:=Tryz.isAgg157
 z182:=Tryz.sizeOf157
 v182:=Tryz.zeroValue157
 t183:=Tryz.underlying158
 a183:=Tryz.isAgg158
 z183:=Tryz.sizeOf158
 v183:=Tryz.zeroValue158
 t218:=Tryz.underlying174
 a218:=Tryz.isAgg174
 z218:=Tryz.sizeOf174
 v218:=Tryz.zeroValue174
 t222:=Tryz.underlying178
 a222:=Tryz.isAgg178
 z222:=Tryz.sizeOf178
 v222:=Tryz.zeroValue178
 t228:=Tryz.underlying182
 a228:=Tryz.isAgg182
 z228:=Tryz.sizeOf182
 v228:=Tryz.zeroValue182
 t229:=Tryz.underlying183
 a229:=Tryz.isAgg183
 z229:=Tryz.sizeOf183
 v229:=Tryz.zeroValue183 }
def Tryz.OJ:Go.Shelf.Ren:=⟨λ| 196=>71 | 259=>99 | n=>n,λ| 9=>9 | 4=>4 | 3=>3 | 5=>5 | 12=>12 | 119=>118 | 0=>0 | 46=>122 | 139=>121 | 138=>120 | 53=>138 | n=>n,λ| 3=>0 | 4=>1 | n=>n⟩
theorem Tryz.L6:Go.Proofs.Lays.n196 Tryz.prog Tryz.OJ:={
 mixed:=by kernel_rfl
 f196:=Tryz.func71.trans (congrArg some (by kernel_rfl))
 f259:=Tryz.func99.trans (congrArg some (by kernel_rfl))
 t0:=Tryz.underlying0
 a0:=Tryz.isAgg0
 z0:=Tryz.sizeOf0
 v0:=Tryz.zeroValue0
 t3:=Tryz.underlying3
 a3:=Tryz.isAgg3
 z3:=Tryz.sizeOf3
 v3:=Tryz.zeroValue3
 t4:=Tryz.underlying4
 a4:=Tryz.isAgg4
 z4:=Tryz.sizeOf4
 v4:=Tryz.zeroValue4
 t5:=Tryz.underlying5
 a5:=Tryz.isAgg5
 z5:=Tryz.sizeOf5
 v5:=Tryz.zeroValue5
 t9:=Tryz.underlying9
 a9:=Tryz.isAgg9
 z9:=Tryz.sizeOf9
 v9:=Tryz.zeroValue9
 t12:=Tryz.underlying12
 a12:=Tryz.isAgg12
 z12:=Tryz.sizeOf12
 v12:=Tryz.zeroValue12
 t46:=Tryz.underlying122
 a46:=Tryz.isAgg122
 z46:=Tryz.sizeOf122
 v46:=Tryz.zeroValue122
 t53:=Tryz.underlying138
 a53:=Tryz.isAgg138
 z53:=Tryz.sizeOf138
 v53:=Tryz.zeroValue138
 t119:=Tryz.underlying118
 a119:=Tryz.isAgg118
 z119:=Tryz.sizeOf118
 t138:=Tryz.underlying120
 a138:=Tryz.isAgg120
 z138:=Tryz.sizeOf120
 v138:=Tryz.zeroValue120
 t139:=Tryz.underlying121
 a139:=Tryz.isAgg121
 z139:=Tryz.sizeOf121
 v139:=Tryz.zeroValue121
 g3:=by kernel_rfl
 g4:=by kernel_rfl }
def Tryz.OL:Go.Shelf.Ren:=⟨λ| 237=>132 | 272=>155 | 238=>154 | 315=>166 | 273=>165 | 197=>157 | 271=>159 | 260=>167 | 120=>169 | n=>n,λ| 9=>9 | 40=>148 | 4=>4 | 3=>3 | 105=>171 | 21=>21 | 0=>0 | 5=>5 | 119=>118 | 46=>122 | 139=>121 | 138=>120 | n=>n,λ| 3=>0 | 4=>1 | n=>n⟩
theorem Tryz.TN:Go.Proofs.Lays.n237 Tryz.prog Tryz.OL:={
 mixed:=by kernel_rfl
 f120:=Tryz.func169.trans (congrArg some (by kernel_rfl))
 f197:=Tryz.func157.trans (congrArg some (by kernel_rfl))
 f237:=Tryz.func132.trans (congrArg some (by kernel_rfl))
 f238:=Tryz.func154.trans (congrArg some (by kernel_rfl))
 f260:=Tryz.func167.trans (congrArg some (by kernel_rfl))
 f271:=Tryz.func159.trans (congrArg some (by kernel_rfl))
 f272:=Tryz.func155.trans (congrArg some (by kernel_rfl))
 f273:=Tryz.func165.trans (congrArg some (by kernel_rfl))
 f315:=Tryz.func166.trans (congrArg some (by kernel_rfl))
 t0:=Tryz.underlying0
 a0:=Tryz.isAgg0
 z0:=Tryz.sizeOf0
 v0:=Tryz.zeroValue0
 t3:=Tryz.underlying3
 a3:=Tryz.isAgg3
 z3:=Tryz.sizeOf3
 v3:=Tryz.zeroValue3
 t4:=Tryz.underlying4
 a4:=Tryz.isAgg4
 z4:=Tryz.sizeOf4
 v4:=Tryz.zeroValue4
 t5:=Tryz.underlying5
 a5:=Tryz.isAgg5
 z5:=Tryz.sizeOf5
 v5:=Tryz.zeroValue5
 t9:=Tryz.underlying9
 a9:=Tryz.isAgg9
 z9:=Tryz.sizeOf9
 v9:=Tryz.zeroValue9
 t21:=Tryz.underlying21
 a21:=Tryz.isAgg21
 z21:=Tryz.sizeOf21
 v21:=Tryz.zeroValue21
 t40:=Tryz.underlying148
 a40:=Tryz.isAgg148
 z40:=Tryz.sizeOf148
 v40:=Tryz.zeroValue148
 t46:=Tryz.underlying122
 a46:=Tryz.isAgg122
 z46:=Tryz.sizeOf122
 v46:=Tryz.zeroValue122
 t105:=Tryz.underlying171
 a105:=Tryz.isAgg171
 z105:=Tryz.sizeOf171
 v105:=Tryz.zeroValue171
 t119:=Tryz.underlying118
 a119:=Tryz.isAgg118
 z119:=Tryz.sizeOf118
 t138:=Tryz.underlying120
 a138:=Tryz.isAgg120
 z138:=Tryz.sizeOf120
 v138:=Tryz.zeroValue120
 t139:=Tryz.underlying121
 a139:=Tryz.isAgg121
 z139:=Tryz.sizeOf121
 v139:=Tryz.zeroValue121
 g3:=by kernel_rfl
 g4:=by kernel_rfl }
def Tryz.Eo:Go.Shelf.Ren:=⟨λ| 4=>110 | n=>n,λ| 22=>23 | 25=>46 | 3=>3 | 4=>4 | 9=>9 | 20=>20 | 0=>0 | n=>n,λ| n=>n⟩
theorem Tryz.L8:Go.Proofs.Lays8.n4 Tryz.prog Tryz.Eo:={
 mixed:=by kernel_rfl
 f4:=⟨Tryz.f110.name,by decide,Tryz.func110.trans (congrArg some (by kernel_rfl))⟩
 t0:=Tryz.underlying0
 a0:=Tryz.isAgg0
 z0:=Tryz.sizeOf0
 v0:=Tryz.zeroValue0
 t3:=Tryz.underlying3
 a3:=Tryz.isAgg3
 z3:=Tryz.sizeOf3
 v3:=Tryz.zeroValue3
 t4:=Tryz.underlying4
 a4:=Tryz.isAgg4
 z4:=Tryz.sizeOf4
 v4:=Tryz.zeroValue4
 t9:=Tryz.underlying9
 a9:=Tryz.isAgg9
 z9:=Tryz.sizeOf9
 v9:=Tryz.zeroValue9
 t20:=Tryz.underlying20
 a20:=Tryz.isAgg20
 z20:=Tryz.sizeOf20
 v20:=Tryz.zeroValue20
 t22:=Tryz.underlying23
 a22:=Tryz.isAgg23
 z22:=Tryz.sizeOf23
 v22:=Tryz.zeroValue23 }
end Go.Proofs
namespace Lp
open Go Go.Proofs Go.RowKit
theorem Ep{w:World}{ok:Nat→Prop}{blk:Nat→Option Nat}{args:List PV}{vs:List Value}(h:bG (aO w ok [] blk) args vs):bG (cu w ok) args vs:=h.mono λ_ _ h=>qx h
theorem av.L9 {P:Program}{f:FuncId}{args:List PV}{r:PV}(hent:Enters P f)
  (h:∀(w:World) (vs:List Value) (ok:Nat→Prop),mr.holds w.heap→bG (cu w ok) args vs→Calls P f ⟨vs⟩ w λe w'=>∃v,e=.returned v∧(∀w ok,cu w ok r v)∧Below w.heap.size w w') :
  av P f args [] r []:=by
 refine⟨hent,λw blk vs base hb _ hargs=>(h w vs _ hb.1 (Ep hargs)).mono ?_⟩
 rintro e w' ⟨v,h1,h2,h3⟩
 exact⟨v,blk,h1,wG,.aI (h2 _ _),λb hb _=>h3.block b hb,h3.size,h3.os,h3.output⟩
theorem av.RO {P:Program}{f:FuncId}{args:List PV}{ty:TypeId}{sz:Nat}(hent:Enters P f)(hty:ty≠MT)
  (h:∀(w:World) (vs:List Value) (ok:Nat→Prop),mr.holds w.heap→bG (cu w ok) args vs→Calls P f ⟨vs⟩ w λe w'=>∃v,e=.returned v∧Below w.heap.size w w'∧
   (v=.slice none 0 0∨∃g cap c,w.heap.size≤g∧v=.slice (some ⟨g,0,none⟩) 0 cap∧w'.heap[g]?=some (.cells c ty (0,0))∧cap≤maxLen∧c.size=cap*sz)) :
  av P f args [] (.aS 0 0) [⟨ty,sz,[],true,0⟩]:=by
 refine⟨hent,λw blk vs base hb _ hargs=>(h w vs _ hb.1 (Ep hargs)).mono ?_⟩
 have one:∀(k:Nat) (o:Obj),([⟨ty,sz,[],true,0⟩]:List Obj)[k]?=some o→k=0∧o=⟨ty,sz,[],true,0⟩:=λk o ho=>by
  match k,ho with
  | 0,ho=>cases ho;exact⟨rfl,rfl⟩
  | _+1,ho=>simp at ho
 rintro e w' ⟨v,h1,h3,h4⟩
 rcases h4 with rfl | ⟨g,cap,c,hg,rfl,hc,hm,hs⟩
 ·refine⟨_,λ_=>none,h1,⟨λk o ho _=>?_,λk k' o o' g _ _ _ _ _ hx=>(by cases hx),λk o g _ _ hx=>(by cases hx)⟩,⟨rfl,_,rfl,Nat.le_refl _,λ_ _=>⟨hty,?_⟩⟩,λb hb _=>h3.block b hb,h3.size,h3.os,h3.output⟩
  ·obtain⟨rfl,rfl⟩:=one k o ho;rfl
  ·exact⟨rfl,rfl⟩
 ·refine⟨_,λ_=>some g,h1,⟨λk o ho _=>?_,λk k' o o' g hkk ho _ ho' _ _=>?_,λk o g' ho _ hx hp=>?_⟩,⟨rfl,_,rfl,Nat.le_refl _,λ_ _=>⟨hty,?_⟩⟩,λb hb _=>h3.block b hb,h3.size,h3.os,h3.output⟩
  ·obtain⟨rfl,rfl⟩:=one k o ho
   exact⟨c,by rw[jv hty];exact hc,qQ hty (by simp),λi x hx=>by simp at hx⟩
  ·obtain⟨rfl,_⟩:=one k o ho
   obtain⟨rfl,_⟩:=one k' o' ho'
   exact absurd rfl hkk
  ·simp only[Option.some.injEq]at hx
   subst hx
   exact absurd hp.1 (by omega)
  ·exact⟨cap,c,rfl,hc,Nat.zero_le _,hm,hs⟩
theorem aey{w:World}{ok:Nat→Prop}{p:PV}{vs:List Value}(h:bG (cu w ok) [p] vs):∃u,vs=[u]∧cu w ok p u:=by
 obtain⟨hl,h⟩:=h
 match vs,hl with
 | [u],_=>exact⟨u,rfl,h 0 _ _ rfl rfl⟩
theorem ZM{w:World}{ok:Nat→Prop}{p q:PV}{vs:List Value}(h:bG (cu w ok) [p,q] vs):∃u v,vs=[u,v]∧cu w ok p u∧cu w ok q v:=by
 obtain⟨hl,h⟩:=h
 match vs,hl with
 | [u,v],_=>exact⟨u,v,rfl,h 0 _ _ rfl rfl,h 1 _ _ rfl rfl⟩
theorem wS{w:World}{ok:Nat→Prop}{s:List UInt8}{v:Value}(h:cu w ok (.str s) v):v=.string ⟨⟨s⟩⟩:=by cases h;rfl
theorem GN{w:World}{ok:Nat→Prop}{k:IntKind}{n:Int}{v:Value}(h:cu w ok (.int k n) v):v=.int k n:=by cases h;rfl
theorem RP(w:World):Below w.heap.size w w.drew:=(Below.refl _ _).drew
theorem Kr{w:World}(h:mr.holds w.heap):Lib.Utf8Tabs 0 1 w:=h w rfl
theorem Dq(s:List UInt8)(hs:s.length≤4611686018427387904):av Tryz.prog 71 [.str s] [] (.bool (utf s)) []:=by
 refine av.L9 ⟨_,Tryz.L6.f196,by kernel_rfl,by kernel_rfl⟩ λw vs ok hg hr=>?_
 obtain⟨u,rfl,h⟩:=aey hr
 cases wS h
 refine (Any.utf8_ValidString Tryz.L6 ⟨⟨s⟩⟩ w (by rw[Lib.size_eq];simp;omega) (Kr hg)).mono ?_
 rintro e w' ⟨h1,h2⟩
 exact⟨_,h1,λw ok=>by rw[Vu];exact .bool _,h2⟩
theorem RQ(s:List UInt8)(hs:s.length≤4611686018427387904):av Tryz.prog 124 [.str s,.str [48]] [] (.str (Lib.trimB s 48)) []:=by
 refine av.L9 ⟨_,Tryz.TL.f160,by kernel_rfl,by kernel_rfl⟩ λw vs ok hg hr=>?_
 obtain⟨u,v,rfl,h,h'⟩:=ZM hr
 cases wS h
 cases wS h'
 refine (Any.strings_Trim_one Tryz.TL ⟨⟨s⟩⟩ 48 (by decide) w (by rw[Lib.size_eq];simp;omega)).mono ?_
 rintro e w' ⟨h1,h2⟩
 refine⟨_,h1,λw ok=>.str _,?_⟩
 rcases h2 with rfl | rfl
 ·exact .refl _ _
 ·exact RP w
theorem I6(W:World)(x:Nat)(hx:x≤1114111):Calls Tryz.prog 133 #[.int .i32 (x:Int)] W λe w'=>e=.returned (.bool (l_ x))∧Below W.heap.size W w':=by
 have mixed:Tryz.prog.follows .mixedOrders=true:=by kernel_rfl
 have e1:l_ x=(decide (48≤(x:Int)) && decide ((x:Int)≤57)):=by
  have a:decide (48≤x)=decide (48≤(x:Int)):=decide_eq_decide.2 (by omega)
  have b:decide (x≤57)=decide ((x:Int)≤57):=decide_eq_decide.2 (by omega)
  rw[l_,a,b]
 rw[e1]
 have h1:(x:Int)<48∨48≤(x:Int):=by omega
 rcases h1 with h1 | h1
 ·have h2:¬ (48≤(x:Int)):=by omega
  rw[decide_eq_false h2]
  go_enter Tryz.func133,Tryz.ntmps133
  go_wp2
  go_ret
  exact⟨rfl,.refl _ _⟩
 ·rw[decide_eq_true h1]
  rcases (by omega:(x:Int)≤57∨57<(x:Int)) with h2 | h2
  ·rw[decide_eq_true h2]
   go_enter Tryz.func133,Tryz.ntmps133
   go_wp2
   go_ret
   exact⟨rfl,.refl _ _⟩
  ·have h3:¬ ((x:Int)≤57):=by omega
   rw[decide_eq_false h3]
   go_enter Tryz.func133,Tryz.ntmps133
   go_wp2
   go_ret
   exact⟨rfl,.refl _ _⟩
theorem L_(s:List UInt8)(hs:s.length≤4611686018427387904):av Tryz.prog 132 [.str s,.fn 133 [] []] [] (.str (Lib.trimF l_ ⟨⟨s⟩⟩).data.toList) []:=by
 refine av.L9 ⟨_,Tryz.TN.f237,by kernel_rfl,by kernel_rfl⟩ λw vs ok hg hr=>?_
 obtain⟨u,v,rfl,h,h'⟩:=ZM hr
 cases wS h
 have hv:v=.func (.func 133) #[] #[]:=by
  cases h' with
  | fn _ _ _ va vc hla hlc ha hc=>
   have e1:va=[]:=List.length_eq_zero_iff.1 (by simpa using hla.symm)
   have e2:vc=[]:=List.length_eq_zero_iff.1 (by simpa using hlc.symm)
   subst e1;subst e2;rfl
 subst hv
 have eg:∀args w,(callFunc 133 args).run Tryz.prog w=.ok (.enter 133 args) w:=enters_of Tryz.func133 (by kernel_rfl) rfl
 refine (Any.strings_TrimFunc_grows Tryz.TN 133 #[] eg l_ ⟨⟨s⟩⟩ w (by rw[Lib.size_eq];simp;omega) (Kr hg) λW x hx _=>I6 W x hx).mono ?_
 rintro e w' ⟨h1,h2⟩
 exact⟨_,h1,λw ok=>.str _,h2⟩
def uN:d9:=λargs objs K=>match args with
 | [.str s,a1]=>a1=(.fn 133 [] [])∧(s.length≤4611686018427387904)∧K (.str (Lib.trimF l_ ⟨⟨s⟩⟩).data.toList) objs 0
 | _=>False
theorem I7:aR Tryz.prog 132 (uN):=by
 intro args objs K h
 unfold uN at h
 split at h
 ·rename_i s a1
  obtain⟨rfl,h1,hk⟩:=h
  exact⟨_,_,_,.pure _ rfl (L_ s h1),hk⟩
 ·exact h.elim
def cZ:d9:=λargs objs K=>match args with
 | [.str s]=>(s.length≤4611686018427387904)∧K (.bool (utf s)) objs 0
 | _=>False
theorem uO:aR Tryz.prog 71 (cZ):=by
 intro args objs K h
 unfold cZ at h
 split at h
 ·rename_i s
  obtain⟨h1,hk⟩:=h
  exact⟨_,_,_,.pure _ rfl (Dq s h1),hk⟩
 ·exact h.elim
def BP:d9:=λargs objs K=>match args with
 | [.str s,a1]=>a1=(.str [48])∧(s.length≤4611686018427387904)∧K (.str (Lib.trimB s 48)) objs 0
 | _=>False
theorem OM:aR Tryz.prog 124 (BP):=by
 intro args objs K h
 unfold BP at h
 split at h
 ·rename_i s a1
  obtain⟨rfl,h1,hk⟩:=h
  exact⟨_,_,_,.pure _ rfl (RQ s h1),hk⟩
 ·exact h.elim
theorem RS(n:Int)(h0:0≤n)(h1:n≤1000000):av Tryz.prog 110 [.sl 0 [] (some true),.int .i64 n] [] (.aS 0 0) [⟨46,6,[],true,0⟩]:=by
 obtain⟨n,rfl⟩:∃k:Nat,n=k:=⟨n.toNat,by omega⟩
 refine av.RO (by
  obtain⟨nm,hn,hf⟩:=Tryz.L8.f4
  exact⟨_,hf,hn,by kernel_rfl⟩) (by decide) λw vs ok hg hr=>?_
 obtain⟨u,v,rfl,h,h'⟩:=ZM hr
 cases GN h'
 have hu:u=.slice none 0 0:=by
  cases h with
  | slnil=>rfl
  | FL _ _ hq=>exact absurd rfl hq
  | sl _ _ _ hq=>exact absurd rfl hq
 subst hu
 rcases Nat.eq_zero_or_pos n with h0 | h0
 ·subst h0
  refine (Any8.slices_Grow_room Tryz.L8 none 0 0 0 w (by decide) (by decide) (by decide) (by decide)).mono ?_
  rintro e w' ⟨h1,rfl⟩
  exact⟨_,h1,.refl _ _,.inl rfl⟩
 ·obtain⟨⟨inf,hi0,hzs,hzb,hz0,_⟩,_⟩:=(hD 46).resolve_left (by simp[dX])
  have hzs:inf.size=6:=hzs
  have hzb:inf.bytes=64:=hzb
  have hz0:inf.zero=some (.agg ⟨[.int .i64 0,.int .i64 0,.string ⟨⟨[]⟩⟩,.string ⟨⟨[]⟩⟩,.bool false,.int .i64 0]⟩):=hz0
  have hge:=grownCap_ge w (0+n) 0 46
  have hmx:=grownCap_le_maxLen w (0+n) 0 46 (by unfold maxLen;omega)
  refine (Any8.slices_Grow_grow Tryz.L8 inf _ hi0 hz0 (by omega) none 0 0 n [] w (by decide) (by omega) (by rw[hzb];omega) (by omega) (by simp) (λ_=>rfl) (λa ha=>by cases ha)).mono ?_
  rintro e w' ⟨h1,rfl⟩
  refine⟨_,h1,(Below.refl w.heap.size w).drew.alloc (Nat.le_refl _) _,.inr ⟨w.heap.size,_,_,Nat.le_refl _,rfl,heap_alloc_new w.drew _,hmx,?_⟩⟩
  simp only[Array.size_append,size_zeroCells,List.size_toArray,List.length_nil]
  have e6:(Value.agg ⟨[.int .i64 0,.int .i64 0,.string ⟨⟨[]⟩⟩,.string ⟨⟨[]⟩⟩,.bool false,.int .i64 0]⟩).cells.size=6:=by decide
  rw[e6]
  have et:Tryz.Eo.t 25=46:=rfl
  rw[et]
  omega
def BQ:d9:=λargs objs K=>match args with
 | [.sl 0 [] (some true),.int .i64 n]=>0≤n∧n≤1000000∧K (.aS objs.length 0) (objs++[⟨46,6,[],true,0⟩]) 2
 | _=>False
theorem OO:aR Tryz.prog 110 BQ:=by
 intro args objs K h
 unfold BQ at h
 split at h
 ·rename_i n
  obtain⟨h0,h1,hk⟩:=h
  have h:=mI.made (objs:=objs) _ _ rfl (λo ho x hx=>by simp at ho;subst ho;cases hx) (RS n h0 h1)
  exact⟨_,_,_,h,by simpa[PV.shift,PV.jN] using hk⟩
 ·exact h.elim
end Lp
namespace Lp
open Go Go.Proofs
theorem OP(l:List Vl)(hl:l.length≤1000000)(hb:l.flatten.length≤1000000):av Tryz.prog 81 [bT l] [] (aj l.flatten) []:=by
 refine l9.bR (T:=bA Tryz.prog [(110,BQ)]) 1 hD (ay (af OO au)) bE (by decide) λQ hQ=>?_
 (conv=>arg 4;cbv);simp (maxSteps:=400000) only[↓aG,aH,BEq.rfl,seval,hQ]
 refine aQ (λm S=>∃i:Nat,i+m=l.length∧S=⟨dD 36 [(0,bT l),(3,.int .i64 ((l.take i).flatten.length:Nat)),(9,bT l),(10,.int .i64 l.length),(11,.int .i64 i)],[]⟩) l.length ⟨0,by omega,?_⟩ ?_
 ·simp only[cB,keepR,Nat.reduceAdd,oO,Nat.reduceBEq,List.map_nil]
  rfl
 rintro m S ⟨i,him,rfl⟩
 rcases Nat.lt_or_ge i l.length with h | h
 ·have hlt:((i:Int)<(l.length:Int))=True:=eq_true (by omega)
  have hgi:=List.getElem?_eq_getElem h
  generalize l[i]=v at hgi
  have hs:=GJ l hgi
  have hf:=yh l hgi
  have zi:(0≤(i:Int))=True:=eq_true (by omega)
  have hs':((l.take (i+1)).flatten.length:Int)=(l.take i).flatten.length+v.length:=by rw[hs,List.length_append];omega
  have hn:(((l.take i).flatten.length:Int)+v.length<0)=False:=eq_false (by omega)
  simp (maxSteps:=400000) only[↓aG,aH,BEq.rfl,seval,hQ,hlt,zi,hgi,hn]
  refine⟨⟨by omega,by omega⟩,⟨by omega,by omega⟩,m-1,by omega,i+1,by omega,?_⟩
  rw[hs']
  rfl
 have hlt:((i:Int)<(l.length:Int))=False:=eq_false (by omega)
 rw[List.take_of_length_le h]
 simp (maxSteps:=400000) only[↓aG,aH,BEq.rfl,seval,hQ,hlt,↓BQ]
 refine⟨by omega,by omega,?_⟩
 refine aQ (λm S=>∃i ver:Nat,i+m=l.length∧S=⟨dD 36 [(6,.aS 0 ver),(25,bT l),(26,.int .i64 l.length),(27,.int .i64 i)],[⟨46,6,(l.take i).flatten.map aM,true,ver⟩]⟩) l.length ⟨0,0,by omega,?_⟩ ?_
 ·simp only[cB,keepR,Nat.reduceAdd,oO,Nat.reduceBEq,List.map_nil]
  rfl
 rintro m' S ⟨j,ver,hjm,rfl⟩
 rcases Nat.lt_or_ge j l.length with h' | h'
 rotate_left 1
 ·have hlt:((j:Int)<(l.length:Int))=False:=eq_false (by omega)
  simp (maxSteps:=400000) only[↓aG,aH,BEq.rfl,seval,hQ,hlt]
  rw[List.take_of_length_le h']
  all_goals exact (Vt l.flatten ver 46 []).symm
 have hlt:((j:Int)<(l.length:Int))=True:=eq_true (by omega)
 have hgi:=List.getElem?_eq_getElem h'
 generalize l[j]=v at hgi
 have hs:=GJ l hgi
 have hf:=yh l hgi
 have zi:(0≤(j:Int))=True:=eq_true (by omega)
 simp (maxSteps:=400000) only[↓aG,aH,BEq.rfl,seval,hQ,hlt,zi,hgi,ZK,ZL]
 refine⟨by omega,by omega,⟨by omega,by omega⟩,m'-1,by omega,j+1,ver+1,by omega,?_⟩
 rw[hs]
 rfl
def yu:d9:=λargs objs K=>match args with
 | [a0]=>gD bT a0 (HK.mk:HK λl=>(l.length≤1000000)∧(l.flatten.length≤1000000)∧K (aj l.flatten) objs 0)
 | _=>False
theorem Ma:aR Tryz.prog 81 (yu):=by
 intro args objs K h
 unfold yu at h
 split at h
 ·rename_i a0
  obtain⟨l,rfl,h1,h2,hk⟩:=h
  exact⟨_,_,_,.pure _ rfl (OP l h1 h2),hk⟩
 ·exact h.elim
theorem adv{names:List (List UInt8)}{l:List Vl}{i:Nat}{nm:List UInt8}{v:Vl}(h1:names[i]?=some nm)(h2:l[i]?=some v) :
  List.zipWith kM (names.take (i+1)) (l.take (i+1))=List.zipWith kM (names.take i) (l.take i)++[kM nm v]:=by
 have a:=(List.getElem?_eq_some_iff.1 h1).1
 have b:=(List.getElem?_eq_some_iff.1 h2).1
 rw[List.take_add_one,List.take_add_one,h1,h2,List.zipWith_append (by simp;omega)]
 rfl
theorem OQ(A:Vl)(n:Nd)(r:Vl)(nm:List UInt8):(A.map aM++(n::r).map aM).set A.length (aM { n with name:=nm })=(A++kM nm (n::r)).map aM:=by
 rw[List.set_append_right _ _ (by simp)]
 simp[kM]
theorem BR(names:List (List UInt8))(l:List Vl):(List.zipWith kM names l).flatten.length≤l.flatten.length:=by
 induction l generalizing names with
 | nil=>simp
 | cons v l ih=>
  cases names with
  | nil=>simp
  | cons nm names=>
   have:=ih names
   simp only[List.zipWith_cons_cons,List.flatten_cons,List.length_append,DW]
   omega
def wT(v:Vl)(ver:Nat):Obj:=⟨46,6,v.map aM,true,ver⟩
theorem qB(v:Vl)(ver:Nat):∀x∈(wT v ver).xs,∀p∈x.cells,p.atom=true:=by
 intro x hx p hp
 obtain⟨n,_,rfl⟩:=List.mem_map.1 hx
 simp only[aM,PV.cells,List.mem_cons,List.not_mem_nil,or_false]at hp
 rcases hp with rfl | rfl | rfl | rfl | rfl | rfl<;>rfl
theorem yw(v:Vl)(ver:Nat):bC [wT v ver]:=by
 intro o ho x hx c hc
 simp only[List.mem_singleton]at ho;subst ho
 exact uo (qB v ver x hx c hc)
theorem qC(d n:Nat)(O:List Obj)(t:TypeId)(sz:Nat)(v:Vl)(ver:Nat):eO d n O ⟨t,sz,v.map aM,true,ver⟩=⟨t,sz,v.map aM,true,ver⟩:=by
 have:(v.map aM).map (PV.bJ (fA d n O))=v.map aM:=by
  rw[List.map_map]
  exact List.map_congr_left λx _=>rfl
 simp only[eO,this]
theorem Vv(names:List (List UInt8))(l:List Vl)(hn:names.length=l.length)(hl:l.length≤1000000)(hb:l.flatten.length≤1000000)(hne:∀v∈l,v≠[]):av Tryz.prog 78 [jT names,bT l] [] (.aS 0 0) [wT (FE names l) 0]:=by
 refine Rl.Ej (T:=bA Tryz.prog []) 1 hD (ay au) bE λQ hQ=>?_
 (conv=>arg 4;cbv);simp (maxSteps:=400000) only[↓aG,aH,BEq.rfl,seval,hQ,ZK,ZL]
 refine aQ (λm S=>∃i ver:Nat,i+m=l.length∧S=⟨dD 35 [(0,jT names),(5,.aS 0 ver),(13,bT l),(14,.int .i64 l.length),(15,.int .i64 i)],[⟨46,6,((⟨6,l.length,[],[],false,0⟩:Nd)::(List.zipWith kM (names.take i) (l.take i)).flatten).map aM,true,ver⟩]⟩) l.length ⟨0,1,by omega,?_⟩ ?_
 ·simp only[cB,keepR,Nat.reduceAdd,oO,Nat.reduceBEq,List.map_nil]
  rfl
 rintro m S ⟨i,ver,him,rfl⟩
 rcases Nat.lt_or_ge i l.length with h | h
 rotate_left 1
 ·have hlt:((i:Int)<(l.length:Int))=False:=eq_false (by omega)
  simp (maxSteps:=400000) only[↓aG,aH,BEq.rfl,seval,hQ,hlt]
  rw[List.take_of_length_le h,List.take_of_length_le (by omega)]
  exact I4 (k:=0) (ver:=ver) rfl rfl rfl rfl (congrArg (λo:Obj=>{ o with ver:=0 }) (qC 1 1 _ 46 6 (FE names l) ver)) (yw _ 0)
 have hlt:((i:Int)<(l.length:Int))=True:=eq_true (by omega)
 have hgi:=List.getElem?_eq_getElem h
 have hgn:names[i]?=some (names[i]'(by omega)):=List.getElem?_eq_getElem (by omega)
 have hv:=hne _ (List.getElem_mem h)
 generalize l[i]=v at hgi hv
 generalize names[i]'(by omega)=nm at hgn
 have hz:=adv hgn hgi
 have hf:=yh l hgi
 have hf2:=BR (names.take i) (l.take i)
 generalize hA:(List.zipWith kM (names.take i) (l.take i)).flatten=A at *
 obtain⟨n,r,rfl⟩:∃n r,v=n::r:=by
  cases v with
  | nil=>exact absurd rfl hv
  | cons n r=>exact⟨n,r,rfl⟩
 have zi:(0≤(i:Int))=True:=eq_true (by omega)
 simp (maxSteps:=400000) only[↓aG,aH,BEq.rfl,seval,hQ,hlt,zi,hgi,hgn,ZK,ZL]
 have hf3:A.length+(r.length+1)≤1000000:=by rw[List.length_cons]at hf;omega
 refine⟨XI n r ▸ trivial,by omega,by omega,by omega,by omega,aM n,by simp,by simp[adu],⟨by omega,by omega⟩,m-1,by omega,i+1,ver+1,by omega,?_⟩
 rw[hz,List.flatten_append,hA,nmP]
 have:=OQ A n r nm
 rw[List.map_cons]at this
 rw[this]
 simp
end Lp
namespace Lp
open Go Go.Proofs
theorem RU(names:List (List UInt8))(l:List Vl)(hn:names.length=l.length)(hl:l.length≤1000000)(hb:l.flatten.length≤1000000)(hne:∀v∈l,v≠[]):av Tryz.prog 84 [jT names,bT l] [] (.aS 0 0) [wT (FE names l) 0]:=by
 refine Ag.Ej (T:=bA Tryz.prog []) 1 hD (ay au) bE λQ hQ=>?_
 (conv=>arg 4;cbv);simp (maxSteps:=400000) only[↓aG,aH,BEq.rfl,seval,hQ,ZK,ZL]
 refine aQ (λm S=>∃i ver:Nat,i+m=l.length∧S=⟨dD 41 [(0,jT names),(1,bT l),(5,.aS 0 ver),(6,.int .i64 i)],[⟨46,6,((⟨6,l.length,[],[],false,0⟩:Nd)::(List.zipWith kM (names.take i) (l.take i)).flatten).map aM,true,ver⟩]⟩) l.length ⟨0,1,by omega,?_⟩ ?_ (hz:=Nat.zero_le _)
 ·simp only[cB,keepR,Nat.reduceAdd,oO,Nat.reduceBEq,List.map_nil]
  rfl
 rintro m S ⟨i,ver,him,rfl⟩
 rcases Nat.lt_or_ge i l.length with h | h
 rotate_left 1
 ·have hlt:((i:Int)<(l.length:Int))=False:=eq_false (by omega)
  simp (maxSteps:=400000) only[↓aG,aH,BEq.rfl,seval,hQ,hlt]
  rw[List.take_of_length_le h,List.take_of_length_le (by omega)]
  exact I4 (k:=0) (ver:=ver) rfl rfl rfl rfl (congrArg (λo:Obj=>{ o with ver:=0 }) (qC 1 1 _ 46 6 (FE names l) ver)) (yw _ 0)
 have hlt:((i:Int)<(l.length:Int))=True:=eq_true (by omega)
 have hgi:=List.getElem?_eq_getElem h
 have hgn:names[i]?=some (names[i]'(by omega)):=List.getElem?_eq_getElem (by omega)
 have hv:=hne _ (List.getElem_mem h)
 generalize l[i]=v at hgi hv
 generalize names[i]'(by omega)=nm at hgn
 have hz:=adv hgn hgi
 have hf:=yh l hgi
 have hf2:=BR (names.take i) (l.take i)
 generalize hA:(List.zipWith kM (names.take i) (l.take i)).flatten=A at *
 obtain⟨n,r,rfl⟩:∃n r,v=n::r:=by
  cases v with
  | nil=>exact absurd rfl hv
  | cons n r=>exact⟨n,r,rfl⟩
 have hf3:A.length+(r.length+1)≤1000000:=by rw[List.length_cons]at hf;omega
 have zi:(0≤(i:Int))=True:=eq_true (by omega)
 have hgA:(List.map aM A++aM n::List.map aM r)[A.length]?=some (aM n):=by simp
 simp (maxSteps:=400000) only[↓aG,aH,BEq.rfl,seval,hQ,hlt,zi,hgi,hgn,ZK,ZL,hgA,TI,TJ,nmP]
 have hset:∀hd:Nd,aM hd::(List.map aM A++aM n::List.map aM r).set A.length (aM { kind:=n.kind,many:=n.many,name:=nm,s:=n.s,neg:=n.neg,e:=n.e })=(hd::(A++kM nm (n::r))).map aM:=λhd=>by
  rw[List.map_cons,←OQ];rfl
 refine⟨XI n r ▸ trivial,by omega,by omega,by omega,by omega,by omega,by omega,⟨by omega,by omega⟩,m-1,by omega,i+1,ver+1,by omega,?_⟩
 rw[hset,hz,List.flatten_append,hA]
 simp only[List.take_succ_cons,List.take_zero,List.map_cons (f:=eO _ _ _),List.map_nil,qC,List.flatten_cons,List.flatten_nil,List.append_nil]
 rfl
end Lp
namespace Lp
open Go
structure OT (names:List (List UInt8)) (l:List Vl) (q:mq) (done:List Bool) (m:Nat):Prop where
 par:names.length=l.length
 len:done.length=names.length
 cnt:q.length+m=names.length
 left:done.count false=m
 mem:∀x:List UInt8×Vl,x∈q↔∃i:Nat,done[i]?=some true∧names[i]?=some x.1∧l[i]?=some x.2
 rise:ou (q.map (·.1))
 utf:∀x∈q,utf x.1=true
 low:∀(i:Nat) nm,done[i]?=some false→names[i]?=some nm→∀x∈q,Op.bytesLess nm x.1=false
 one:∀(i j:Nat) nm,done[i]?=some true→done[j]?=some true→names[i]?=some nm→names[j]?=some nm→i=j
theorem OT.init (names:List (List UInt8))(l:List Vl)(hp:names.length=l.length):OT names l [] (List.replicate names.length false) names.length:=by
 have hno:∀i:Nat,(List.replicate names.length false)[i]?≠some true:=λi h=>by
  rw[List.getElem?_replicate]at h
  split at h<;>cases h
 refine⟨hp,by simp,by simp,by simp,λx=>⟨λh=>(List.not_mem_nil h).elim,λ⟨i,h,_⟩=>absurd h (hno i)⟩,List.Pairwise.nil,λx h=>(List.not_mem_nil h).elim,λ_ _ _ _ x h=>(List.not_mem_nil h).elim,λi j nm h=>absurd h (hno i)⟩
theorem OT.above {names:List (List UInt8)}{l:List Vl}{q:mq}{done:List Bool}{m:Nat}(h:OT names l q done m){b:Nat}{nm:List UInt8}(hb:done[b]?=some false)(hn:names[b]?=some nm)
  (hl:∀x,q.getLast?=some x→x.1≠nm):∀x∈q,Op.bytesLess x.1 nm=true:=by
 have hlow:=h.low b nm hb hn
 rcases List.eq_nil_or_concat q with rfl | ⟨q',z,rfl⟩
 ·intro x hx;cases hx
 rw[List.concat_eq_append]at *
 have hz:z∈q'++[z]:=by simp
 have hzl:Op.bytesLess z.1 nm=true:=by
  rcases CG z.1 nm with g | g | g
  ·exact g
  ·exact absurd g (hl z (by simp))
  ·rw[hlow z hz]at g;cases g
 intro x hx
 have hr:=h.rise
 rw[List.map_append]at hr
 rcases List.mem_append.1 hx with hx | hx
 ·exact kR _ _ _ ((List.pairwise_append.1 hr).2.2 x.1 (List.mem_map.2 ⟨x,hx,rfl⟩) z.1 (by simp)) hzl
 ·simp only[List.mem_singleton]at hx
  subst hx;exact hzl
theorem OT.step {names:List (List UInt8)}{l:List Vl}{q:mq}{done:List Bool}{m:Nat}(h:OT names l q done (m+1)){b:Nat}{nm:List UInt8}{v:Vl}(hb:done[b]?=some false)(hn:names[b]?=some nm)(hv:l[b]?=some v)
  (hmin:∀(i:Nat) Er,done[i]?=some false→names[i]?=some Er→Op.bytesLess Er nm=false) (hu:Lp.utf nm=true) (hl:∀x,q.getLast?=some x→x.1≠nm) :
  OT names l (q++[(nm,v)]) (done.set b true) m:=by
 have hbl:=(List.getElem?_eq_some_iff.1 hb).1
 have hab:=h.above hb hn hl
 have hset:∀i c,(done.set b true)[i]?=some c→(i=b∧c=true)∨(i≠b∧done[i]?=some c):=λi c hc=>by
  rw[List.getElem?_set]at hc
  split at hc
  ·rename_i e
   subst e
   exact .inl ⟨rfl,by simpa[hbl] using hc.symm⟩
  ·rename_i e
   exact .inr ⟨λe'=>e e'.symm,hc⟩
 have hset':∀i c,i≠b→done[i]?=some c→(done.set b true)[i]?=some c:=λi c hi hc=>by
  rw[List.getElem?_set_ne (λe=>hi e.symm)];exact hc
 have hsb:(done.set b true)[b]?=some true:=by rw[List.getElem?_set_self hbl]
 refine⟨h.par,by simp[h.len],by have:=h.cnt;simp;omega,?_,λx=>?_,?_,?_,?_,?_⟩
 ·have h1:=h.left
  have e:done=done.take b++false::done.drop (b+1):=by
   have:=List.getElem?_eq_some_iff.1 hb
   obtain⟨_,e⟩:=this
   conv=>lhs;rw[←List.take_append_drop b done,List.drop_eq_getElem_cons hbl,e]
  have e2:done.set b true=done.take b++true::done.drop (b+1):=by
   rw[List.set_eq_take_append_cons_drop,if_pos hbl]
  rw[e2,List.count_append,List.count_cons]
  rw[e,List.count_append,List.count_cons]at h1
  simp at h1 ⊢
  omega
 ·rw[List.mem_append,h.mem]
  constructor
  ·rintro (⟨i,h1,h2,h3⟩ | hx)
   ·have:i≠b:=λe=>by subst e;rw[hb]at h1;cases h1
    exact⟨i,hset' i _ this h1,h2,h3⟩
   ·simp only[List.mem_singleton]at hx
    subst hx
    exact⟨b,hsb,hn,hv⟩
  ·rintro⟨i,h1,h2,h3⟩
   rcases hset i _ h1 with ⟨rfl,_⟩ | ⟨hi,hd⟩
   ·right
    rw[hn]at h2;rw[hv]at h3
    simp only[Option.some.injEq]at h2 h3
    simp[h2,h3]
   ·exact .inl ⟨i,hd,h2,h3⟩
 ·rw[List.map_append]
  refine List.pairwise_append.2 ⟨h.rise,by simp,λx hx y hy=>?_⟩
  simp only[List.map_cons,List.map_nil,List.mem_singleton]at hy
  subst hy
  obtain⟨z,hz,rfl⟩:=List.mem_map.1 hx
  exact hab z hz
 ·intro x hx
  rcases List.mem_append.1 hx with hx | hx
  ·exact h.utf x hx
  ·simp only[List.mem_singleton]at hx
   subst hx;exact hu
 ·intro i Er h1 h2 x hx
  rcases hset i _ h1 with ⟨_,hc⟩ | ⟨hi,hd⟩
  ·cases hc
  ·rcases List.mem_append.1 hx with hx | hx
   ·exact h.low i Er hd h2 x hx
   ·simp only[List.mem_singleton]at hx
    subst hx
    exact hmin i Er hd h2
 ·intro i j Er h1 h2 h3 h4
  have key:∀k,k≠b→done[k]?=some true→names[k]?=some Er→Er≠nm:=λk hk hd hnk e=>by
   subst e
   have hkl:k<l.length:=by rw[←h.par];exact (List.getElem?_eq_some_iff.1 hnk).1
   have:=hab (Er,l[k]) ((h.mem _).2 ⟨k,hd,hnk,List.getElem?_eq_getElem hkl⟩)
   rw[lQ]at this;cases this
  rcases hset i _ h1 with ⟨rfl,_⟩ | ⟨hi,hd⟩
  ·rcases hset j _ h2 with ⟨rfl,_⟩ | ⟨hj,hd'⟩
   ·rfl
   ·rw[hn]at h3
    simp only[Option.some.injEq]at h3
    exact absurd h3.symm (key j hj hd' h4)
  ·rcases hset j _ h2 with ⟨rfl,_⟩ | ⟨hj,hd'⟩
   ·rw[hn]at h4
    simp only[Option.some.injEq]at h4
    exact absurd h4.symm (key i hi hd h3)
   ·exact h.one i j Er hd hd' h3 h4
theorem OT.all {names:List (List UInt8)}{l:List Vl}{q:mq}{done:List Bool}(h:OT names l q done 0){i:Nat}(hi:i<names.length):done[i]?=some true:=by
 have h1:=List.getElem?_eq_getElem (by rw[h.len];exact hi:i<done.length)
 rw[h1]
 cases hd:done[i]'(by rw[h.len];exact hi) with
 | true=>rfl
 | false=>
  have:=h.left
  rw[List.count_eq_zero]at this
  exact absurd (by rw[←hd];exact List.getElem_mem _) this
theorem OT.end {names:List (List UInt8)}{l:List Vl}{q:mq}{done:List Bool}(h:OT names l q done 0):dY names l.length=true∧q=KW (names.zip l):=by
 have hq:∀(i:Nat) (hi:i<names.length),(names[i],l[i]'(by rw[←h.par];exact hi))∈q:=λi hi=>
  (h.mem _).2 ⟨i,h.all hi,List.getElem?_eq_getElem hi,List.getElem?_eq_getElem _⟩
 have hok:dY names l.length=true:=by
  rw[lS]
  refine⟨h.par,?_,λx hx=>?_⟩
  ·refine List.pairwise_iff_getElem.2 λi j hi hj hij e=>?_
   have:=h.one i j names[i] (h.all hi) (h.all hj) (List.getElem?_eq_getElem hi) (by rw[e];exact List.getElem?_eq_getElem hj)
   omega
  ·obtain⟨i,hi,rfl⟩:=List.mem_iff_getElem.1 hx
   exact h.utf _ (hq i hi)
 refine⟨hok,DX hok h.rise λx=>?_⟩
 constructor
 ·intro hx
  obtain⟨i,_,h2,h3⟩:=(h.mem x).1 hx
  refine List.mem_iff_getElem?.2 ⟨i,?_⟩
  rw[List.getElem?_zip_eq_some]
  exact⟨h2,h3⟩
 ·intro hx
  obtain⟨i,hi⟩:=List.mem_iff_getElem?.1 hx
  rw[List.getElem?_zip_eq_some]at hi
  exact (h.mem x).2 ⟨i,h.all (List.getElem?_eq_some_iff.1 hi.1).1,hi.1,hi.2⟩
theorem ZN{names:List (List UInt8)}{k:Nat}{b:Nat}{nm:List UInt8}(hn:names[b]?=some nm)(hu:Lp.utf nm=false):dY names k=false:=by
 cases hh:dY names k with
 | false=>rfl
 | true=>
  have:=(lS.1 hh).2.2 nm (List.mem_of_getElem? hn)
  rw[hu]at this;cases this
theorem OT.twice {names:List (List UInt8)}{l:List Vl}{q:mq}{done:List Bool}{m:Nat}(h:OT names l q done m){b:Nat}{nm:List UInt8}(hb:done[b]?=some false)(hn:names[b]?=some nm){x:List UInt8×Vl}(hx:x∈q)(he:x.1=nm)(k:Nat):dY names k=false:=by
 cases hh:dY names k with
 | false=>rfl
 | true=>
  obtain⟨i,h1,h2,_⟩:=(h.mem x).1 hx
  have hnd:=(lS.1 hh).2.1
  have hib:i≠b:=λe=>by subst e;rw[hb]at h1;cases h1
  rw[he]at h2
  obtain⟨hi,e1⟩:=List.getElem?_eq_some_iff.1 h2
  obtain⟨hj,e2⟩:=List.getElem?_eq_some_iff.1 hn
  have hpw:=List.pairwise_iff_getElem.1 hnd
  rcases Nat.lt_trichotomy i b with g | g | g
  ·exact absurd (e1.trans e2.symm) (hpw i b hi hj g)
  ·exact absurd g hib
  ·exact absurd (e2.trans e1.symm) (hpw b i hj hi g)
theorem OT.some {names:List (List UInt8)}{l:List Vl}{q:mq}{done:List Bool}{m:Nat}(h:OT names l q done (m+1)):∃i:Nat,done[i]?=Option.some false:=by
 have:0<done.count false:=by rw[h.left];omega
 exact List.mem_iff_getElem?.1 (List.count_pos_iff.1 this)
end Lp
namespace Lp
open Go Go.Proofs
section
variable {α:Type}{enc:α→PV}{sz:Nat}
def Nl(enc:α→PV)(xs:List PV){K:List α→Prop}(_h:HK K):Prop:=∃l,xs=l.map enc∧K l
theorem GQ(hi:∀a b,enc a=enc b→a=b)(K:List α→Prop)(l:List α):Nl enc (l.map enc) (HK.mk:HK K)=K l:=by
 refine propext ⟨λ⟨m,h1,h2⟩=>?_,λh=>⟨l,rfl,h⟩⟩
 have:l=m:=(List.map_inj_right (λa b h=>hi a b h)).1 h1
 subst this;exact h2
def sQ(enc:α→PV)(sz:Nat)(a:PV)(objs:List Obj){K:List α→Prop}(_h:HK K):Prop:=match a with
 | .aS k ver=>∃o,objs[k]?=some o∧o.live=true∧o.ver=ver∧o.sz=sz∧Nl enc o.xs (HK.mk:HK K)
 | .sl _ [] (some true)=>K []
 | .sl s xs none=>s=sz∧Nl enc xs (HK.mk:HK K)
 | _=>False
theorem iV{a:PV}{objs:List Obj}{K:List α→Prop}(hc:∀x,∀c∈(enc x).cells,c.ref=false)(h:sQ enc sz a objs (HK.mk:HK K)):∃l a',abv objs a a'∧fG a' (.sl sz (l.map enc) none)∧K l:=by
 unfold sQ at h
 split at h
 ·obtain⟨o,h1,h2,h3,rfl,l,h4,h5⟩:=h
  refine⟨l,.sl o.sz o.xs none,⟨o,h1,h2,h3,λx hx c hcc=>?_,rfl⟩,by rw[h4];exact .refl _,h5⟩
  rw[h4]at hx
  obtain⟨y,_,rfl⟩:=List.mem_map.1 hx
  exact hc y c hcc
 ·exact⟨[],_,⟨rfl,rfl⟩,gF _ _,h⟩
 ·obtain⟨rfl,l,rfl,h5⟩:=h
  exact⟨l,_,⟨rfl,rfl⟩,.refl _,h5⟩
 ·exact h.elim
end
theorem str_inj:∀a b:List UInt8,PV.str a=.str b→a=b:=λa b h=>by cases h;rfl
theorem GR:(∀(K:List (List UInt8)→Prop) l,Nl .str (l.map .str) (HK.mk:HK K)=K l)∧(∀(K:List Vl→Prop) l,Nl aj (l.map aj) (HK.mk:HK K)=K l):=⟨GQ str_inj,GQ mQ⟩
theorem Mc(objs:List Obj) :
  (∀(K:List (List UInt8)→Prop) l,sQ .str 1 (jT l) objs (HK.mk:HK K)=K l)∧(∀(K:List (List UInt8)→Prop) s,sQ .str 1 (.sl s [] (some true)) objs (HK.mk:HK K)=K [])∧
  (∀(K:List (List UInt8)→Prop) k ver,sQ .str 1 (.aS k ver) objs (HK.mk:HK K)=∃o,objs[k]?=some o∧o.live=true∧o.ver=ver∧o.sz=1∧Nl .str o.xs (HK.mk:HK K))∧
  (∀(K:List Vl→Prop) l,sQ aj 1 (bT l) objs (HK.mk:HK K)=K l)∧(∀(K:List Vl→Prop) s,sQ aj 1 (.sl s [] (some true)) objs (HK.mk:HK K)=K [])∧
  (∀(K:List Vl→Prop) k ver,sQ aj 1 (.aS k ver) objs (HK.mk:HK K)=∃o,objs[k]?=some o∧o.live=true∧o.ver=ver∧o.sz=1∧Nl aj o.xs (HK.mk:HK K)):=by
 have h1:=GR.1
 have h2:=GR.2
 refine⟨λK l=>?_,λ_ _=>rfl,λ_ _ _=>rfl,λK l=>?_,λ_ _=>rfl,λ_ _ _=>rfl⟩
 ·have:sQ .str 1 (jT l) objs (HK.mk:HK K)=((1:Nat)=1∧Nl .str (l.map .str) (HK.mk:HK K)):=by cases l<;>rfl
  rw[this,h1];simp
 ·have:sQ aj 1 (bT l) objs (HK.mk:HK K)=((1:Nat)=1∧Nl aj (l.map aj) (HK.mk:HK K)):=by cases l<;>rfl
  rw[this,h2];simp
theorem strCells:∀x:List UInt8,∀c∈(PV.str x).cells,c.ref=false:=λx c h=>by simp only[PV.cells,List.mem_singleton]at h;subst h;rfl
theorem BS:∀x:Vl,∀c∈(aj x).cells,c.ref=false:=λx c h=>by simp only[aj,PV.cells,List.mem_singleton]at h;subst h;rfl
theorem sS{a b c d:PV}(h1:fG a c)(h2:fG b d):∀(i:Nat) (p q:PV),[a,b][i]?=some p→[c,d][i]?=some q→fG p q:=λi p q hp hq=>by
 match i with
 | 0=>cases hp;cases hq;exact h1
 | 1=>cases hp;cases hq;exact h2
 | _+2=>simp at hp
def qD:d9:=λargs objs K=>match args with
 | [a,b]=>sQ .str 1 a objs (HK.mk:HK λnames=>sQ aj 1 b objs (HK.mk:HK λl=>names.length=l.length∧l.length≤1000000∧l.flatten.length≤1000000∧(∀v∈l,v≠[])∧K (.aS objs.length 0) (objs++[wT (FE names l) 0]) 2))
 | _=>False
theorem Es:aR Tryz.prog 78 qD:=by
 intro args objs K h
 unfold qD at h
 split at h
 ·obtain⟨names,a',l1,t1,h⟩:=iV strCells h
  obtain⟨l,b',l2,t2,h1,h2,h3,h4,h5⟩:=iV BS h
  exact⟨_,_,_,.FX 0 _ [a',b'] ⟨l1,l2,trivial⟩ (qB _ _) ((Vv names l h1 h2 h3 h4).arg rfl (sS t1 t2)),h5⟩
 ·exact h.elim
end Lp
namespace Lp
open Go Go.Proofs
open Nat (lt_or_ge)
theorem GU{α:Type}{f:PV→PV}(enc:α→PV)(h:∀x,(enc x).bJ f=enc x)(l:List α):(l.map enc).map (PV.bJ f)=l.map enc:=by
 rw[List.map_map]
 exact List.map_congr_left λx _=>h x
def OU(q:mq)(done:List Bool)(v1 v2:Nat):List Obj:=[⟨9,1,(q.map (·.1)).map .str,true,v1⟩,⟨23,1,(q.map (·.2)).map aj,true,v2⟩,⟨4,1,done.map .bool,true,1⟩]
def lX:d9:=λargs objs K=>match args with
 | [a,b]=>sQ .str 1 a objs (HK.mk:HK λnames=>sQ aj 1 b objs (HK.mk:HK λl=>names.length=l.length∧l.length≤1000000∧l.flatten.length≤1000000∧(∀v∈l,v≠[])∧K (.aS objs.length 0) (objs++[wT (FE names l) 0]) 2))
 | _=>False
theorem uP:aR Tryz.prog 84 lX:=by
 intro args objs K h
 unfold lX at h
 split at h
 ·obtain⟨names,a',l1,t1,h⟩:=iV strCells h
  obtain⟨l,b',l2,t2,h1,h2,h3,h4,h5⟩:=iV BS h
  exact⟨_,_,_,.FX 0 _ [a',b'] ⟨l1,l2,trivial⟩ (qB _ _) ((RU names l h1 h2 h3 h4).arg rfl (sS t1 t2)),h5⟩
 ·exact h.elim
theorem wU(names:List (List UInt8))(l:List Vl)(hn:names.length≤1000000)(_hl:l.length≤1000000)(hb:l.flatten.length≤1000000)(hne:∀v∈l,v≠[])(htx:∀s∈names,s.length≤4611686018427387904)
  (Q:Exit→St→Prop) (R:List (Nat×PV)→List Obj→Prop) (hQ:∀t ob,Q .ret ⟨dD 97 t,ob⟩=R t ob)
  (hbad:dY names l.length=false→∀t ob,qK t 4=.sl 0 [] (some true)→qK t 5=.int .i64 4→R t ob)
  (hgood:dY names l.length=true→∀t x y z,qK t 4=.aS 3 0→qK t 5=.int .i64 0→R t [x,y,z,wT (zU names l) 0]) :
  iK Tryz.prog D (bA Tryz.prog [(37,fo),(84,lX)]) pz Q (aY [jT names,bT l] 97):=by
 by_cases hp:names.length=l.length
 rotate_left 1
 ·have hl':((names.length:Int)=(l.length:Int))=False:=eq_false (by omega)
  have hr:dY names l.length=false:=by simp[dY,hp]
  (conv=>arg 4;cbv);simp (maxSteps:=400000) only[↓aG,aH,BEq.rfl,seval,hQ,hl']
  exact hbad hr _ _ rfl rfl
 have hl':((names.length:Int)=(l.length:Int))=True:=eq_true (by omega)
 (conv=>arg 4;cbv);simp (maxSteps:=400000) only[↓aG,aH,BEq.rfl,seval,hQ,hl']
 refine⟨by omega,by omega,by omega,by omega,?_⟩
 refine aQ (λm S=>∃(q:mq) (done:List Bool) (v1 v2:Nat),OT names l q done m∧S=⟨dD 97 [(0,jT names),(1,bT l),(6,.aS 0 v1),(7,.aS 1 v2),(8,.aS 2 1)],OU q done v1 v2⟩) names.length ⟨[],List.replicate names.length false,1,1,OT.init names l hp,?_⟩ ?_
 ·simp only[cB,keepR,Nat.reduceAdd,oO,Nat.reduceBEq,List.map_nil]
  simp only[OU,List.map_nil,List.map_replicate]
 rintro m S ⟨q,done,v1,v2,hS,rfl⟩
 have hcnt:=hS.cnt
 have hdl:=hS.len
 cases m with
 | zero=>
  have hlt:((q.length:Int)<(names.length:Int))=False:=eq_false (by omega)
  obtain⟨hok,hq⟩:=hS.end
  unfold OU
  simp (maxSteps:=400000) only[↓aG,aH,BEq.rfl,seval,hQ,hlt]
  refine bg _ (Weak.refl _ _) ?_
  simp (maxSteps:=400000) only[↓aG,aH,BEq.rfl,seval,hQ,↓lX,Mc,GR]
  have hq2:(q.map (·.2)).flatten.length≤1000000:=by rw[hq,Un hp];exact hb
  have e:FE (q.map (·.1)) (q.map (·.2))=zU names l:=by rw[A7,hq];simp[zU,hok]
  rw[e]
  refine⟨by omega,hq2,λv hv=>hne v ?_,hgood hok _ _ _ _ rfl rfl⟩
  obtain⟨x,hx,rfl⟩:=List.mem_map.1 hv
  obtain⟨i,_,_,h3⟩:=(hS.mem x).1 hx
  exact List.mem_of_getElem? h3
 | succ m=>
 have hlt:((q.length:Int)<(names.length:Int))=True:=eq_true (by omega)
 unfold OU
 simp (maxSteps:=400000) only[↓aG,aH,BEq.rfl,seval,hQ,hlt]
 refine aQ (λm' S=>∃(j:Nat) (best:Int),j+m'=names.length∧((best=-1∧∀i,i<j→done[i]?=some true)∨∃(b:Nat) (nm:List UInt8),best=b∧done[b]?=some false∧names[b]?=some nm∧b<j∧∀(i:Nat) (Er:List UInt8),i<j→done[i]?=some false→names[i]?=some Er→Op.bytesLess Er nm=false)∧
  S=⟨dD 97 [(0,jT names),(1,bT l),(6,.aS 0 v1),(7,.aS 1 v2),(8,.aS 2 1),(9,.int .i64 best),(10,.int .i64 j)],OU q done v1 v2⟩) names.length ⟨0,-1,by omega,.inl ⟨rfl,λi h=>absurd h (Nat.not_lt_zero i)⟩,?_⟩ ?_
 ·simp only[cB,keepR,Nat.reduceAdd,oO,Nat.reduceBEq,List.map_nil]
  rfl
 rintro m' S ⟨j,best,hjm,XO,rfl⟩
 unfold OU
 rcases lt_or_ge j names.length with h | h
 ·have hlt:((j:Int)<(names.length:Int))=True:=eq_true (by omega)
  have zj:(0≤(j:Int))=True:=eq_true (by omega)
  have hgj:=List.getElem?_eq_getElem h
  have hdj:done[j]?=some (done[j]'(by omega)):=List.getElem?_eq_getElem (by omega)
  generalize names[j]=nj at hgj
  generalize done[j]'(by omega)=dj at hdj
  cases dj with
  | true=>
   simp (maxSteps:=400000) only[↓aG,aH,BEq.rfl,seval,hQ,hlt,zj,hgj,hdj]
   refine⟨by omega,⟨by omega,by omega⟩,m'-1,by omega,j+1,best,by omega,?_,?_⟩
   ·rcases XO with ⟨rfl,hh⟩ | ⟨b,nm,rfl,h1,h2,h3,h4⟩
    ·refine .inl ⟨rfl,λi hi=>?_⟩
     rcases lt_or_ge i j with g | g
     ·exact hh i g
     ·have:i=j:=by omega
      subst this;exact hdj
    ·refine .inr ⟨b,nm,rfl,h1,h2,by omega,λi Er hi hd hnn=>?_⟩
     rcases lt_or_ge i j with g | g
     ·exact h4 i Er g hd hnn
     ·have:i=j:=by omega
      subst this;rw[hdj]at hd;cases hd
   ·rfl
  | false=>
   rcases XO with ⟨rfl,hh⟩ | ⟨b,nm,rfl,h1,h2,h3,h4⟩
   ·have hm1:((-1:Int)<0)=True:=eq_true (by omega)
    simp (maxSteps:=400000) only[↓aG,aH,BEq.rfl,seval,hQ,hlt,zj,hgj,hdj,hm1]
    refine⟨by omega,⟨by omega,by omega⟩,m'-1,by omega,j+1,j,by omega,.inr ⟨j,nj,rfl,hdj,hgj,by omega,λi Er hi hd hnn=>?_⟩,?_⟩
    ·rcases lt_or_ge i j with g | g
     ·have:=hh i g;rw[this]at hd;cases hd
     ·have:i=j:=by omega
      subst this;rw[hgj]at hnn;cases hnn;exact lQ _
    ·rfl
   ·have hm1:((b:Int)<0)=False:=eq_false (by omega)
    have zb:(0≤(b:Int))=True:=eq_true (by omega)
    cases hc:Op.bytesLess nj nm
    ·simp (maxSteps:=400000) only[↓aG,aH,BEq.rfl,seval,hQ,hlt,zj,hgj,hdj,hm1,zb,h2,hc]
     refine⟨by omega,⟨by omega,by omega⟩,m'-1,by omega,j+1,b,by omega,.inr ⟨b,nm,rfl,h1,h2,by omega,λi Er hi hd hnn=>?_⟩,?_⟩
     ·rcases lt_or_ge i j with g | g
      ·exact h4 i Er g hd hnn
      ·have:i=j:=by omega
       subst this;rw[hgj]at hnn;cases hnn;exact hc
     ·rfl
    ·simp (maxSteps:=400000) only[↓aG,aH,BEq.rfl,seval,hQ,hlt,zj,hgj,hdj,hm1,zb,h2,hc]
     refine⟨by omega,⟨by omega,by omega⟩,m'-1,by omega,j+1,j,by omega,.inr ⟨j,nj,rfl,hdj,hgj,by omega,λi Er hi hd hnn=>?_⟩,?_⟩
     ·rcases lt_or_ge i j with g | g
      ·have:=h4 i Er g hd hnn
       cases hx:Op.bytesLess Er nj with
       | false=>rfl
       | true=>rw[kR _ _ _ hx hc]at this;cases this
      ·have:i=j:=by omega
       subst this;rw[hgj]at hnn;cases hnn;exact lQ _
     ·rfl
 have ZO:((j:Int)<(names.length:Int))=False:=eq_false (by omega)
 obtain⟨b,nm,rfl,hbd,hbn,hbj,hmin⟩:∃(b:Nat) (nm:List UInt8),best=b∧done[b]?=some false∧names[b]?=some nm∧b<j∧∀(i:Nat) (Er:List UInt8),done[i]?=some false→names[i]?=some Er→Op.bytesLess Er nm=false:=by
  rcases XO with ⟨rfl,hh⟩ | ⟨b,nm,rfl,h1,h2,h3,h4⟩
  ·obtain⟨i,hi⟩:=hS.some
   have:=hh i (by have:=(List.getElem?_eq_some_iff.1 hi).1;omega)
   rw[this]at hi;cases hi
  ·exact⟨b,nm,rfl,h1,h2,h3,λi Er hd hnn=>h4 i Er (by have:=(List.getElem?_eq_some_iff.1 hnn).1;omega) hd hnn⟩
 have zb:(0≤(b:Int))=True:=eq_true (by omega)
 have hnl:nm.length≤4611686018427387904:=htx nm (List.mem_of_getElem? hbn)
 cases hu:utf nm
 ·skip
  simp (maxSteps:=400000) only[↓aG,aH,BEq.rfl,seval,hQ,ZO,zb,hbn,↓fo,hu]
  exact⟨hnl,hbad (ZN hbn hu) _ _ rfl rfl⟩
 have hgv:l[b]?=some (l[b]'(by have:=(List.getElem?_eq_some_iff.1 hbn).1;omega)):=List.getElem?_eq_getElem _
 generalize l[b]'(by have:=(List.getElem?_eq_some_iff.1 hbn).1;omega)=v at hgv
 have JI:(List.map (λx:List UInt8×Vl=>PV.str x.1) q).length=q.length:=List.length_map ..
 rcases List.eq_nil_or_concat q with rfl | ⟨q',z,hqz⟩
 ·have hs:=hS.step hbd hbn hgv hmin hu (λx hx=>by simp at hx)
  have h00:((0:Int)<((0:Nat):Int))=False:=eq_false (by omega)
  simp (maxSteps:=400000) only[↓aG,aH,BEq.rfl,seval,hQ,ZO,zb,hbn,↓fo,hu,hgv,h00,hbd]
  refine⟨hnl,by omega,m,by omega,[(nm,v)],done.set b true,v1+1,v2+1,hs,?_⟩
  simp[OU,PV.putCells,PV.cells]
 ·have hgz:q[q.length-1]?=some z:=by rw[hqz];simp
  have hzq:z∈q:=List.mem_of_getElem? hgz
  have hq1:0<q.length:=List.length_pos_of_mem hzq
  have h0q:((0:Int)<(q.length:Int))=True:=eq_true (by omega)
  have t1:((q.length:Int)-1).toNat=q.length-1:=by omega
  have z1:(0≤(q.length:Int)-1)=True:=eq_true (by omega)
  by_cases he:z.1=nm
  ·have he':(z.1=nm)=True:=eq_true he
   simp (maxSteps:=400000) only[↓aG,aH,BEq.rfl,seval,hQ,ZO,zb,hbn,↓fo,hu,h0q,t1,z1,hgz,he']
   exact⟨hnl,⟨by omega,by omega⟩,by omega,hbad (hS.twice hbd hbn hzq he _) _ _ rfl rfl⟩
  ·have he':(z.1=nm)=False:=eq_false he
   have hs:=hS.step hbd hbn hgv hmin hu (λx hx=>by rw[hqz]at hx;simp at hx;rw[←hx];exact he)
   simp (maxSteps:=400000) only[↓aG,aH,BEq.rfl,seval,hQ,ZO,zb,hbn,↓fo,hu,h0q,t1,z1,hgz,he',hgv,hbd]
   refine⟨hnl,⟨by omega,by omega⟩,by omega,by omega,by omega,by omega,by omega,by omega,m,by omega,q++[(nm,v)],done.set b true,v1+1,v2+1,hs,?_⟩
   simp[OU,PV.putCells,PV.cells,List.map_set]
theorem adw{d n k a b:Nat}{q:PV}{o':Obj}{l:List (Nat×PV)}{ob:List Obj}{o:Obj}(ha:a<n)(hb:b<n)(h1:ob[k]?=some o)(h2:o.live=true)(h3:qK l a=.aS k o.ver)(h4:qK l b=q)(h5:jR d k ⟨dD n l,ob⟩ o=o')(h6:bC [o'])(h7:q.atom=true):ab0 D d [.tmp a,.tmp b] [q] o' ⟨dD n l,ob⟩:=
 aex h1 h2 (by simp only[kT,uI.2.1 n l a ha,uI.2.1 n l b hb,h3,h4]) h5 h6 (by simp[h7])
theorem I8(names:List (List UInt8))(l:List Vl)(hbad:dY names l.length=false)(hn:names.length≤1000000)(hl:l.length≤1000000)(hb:l.flatten.length≤1000000)(hne:∀v∈l,v≠[])(htx:∀s∈names,s.length≤4611686018427387904):av Tryz.prog 63 [jT names,bT l] [] (.bY [.sl 0 [] (some true),.int .i64 4]) []:=by
 refine pE.jS (T:=bA Tryz.prog [(37,fo),(84,lX)]) 1 hD (ay (af yc (af uP au))) bE (by decide) (by decide) λQ hQ=>?_
 have h:=wU names l hn hl hb hne htx Q _ hQ (λ_ t ob h1 h2=>by rw[h1,h2];rfl) (λh=>by rw[hbad]at h;cases h)
 exact h
theorem GV(names:List (List UInt8))(l:List Vl)(hok:dY names l.length=true)(hn:names.length≤1000000)(hl:l.length≤1000000)(hb:l.flatten.length≤1000000)(hne:∀v∈l,v≠[])(htx:∀s∈names,s.length≤4611686018427387904):av Tryz.prog 63 [jT names,bT l] [] (.bY [.aS 0 0,.int .i64 0]) [wT (zU names l) 0]:=by
 refine pE.ab1 (qs:=[.int .i64 0]) (T:=bA Tryz.prog [(37,fo),(84,lX)]) 1 hD (ay (af yc (af uP au))) bE (by decide) λQ hQ=>?_
 have h:=wU names l hn hl hb hne htx Q _ hQ (λh=>by rw[hok]at h;cases h) (λ_ t x y z h1 h2=>adw (k:=3) (by decide) (by decide) rfl rfl h1 h2 (by simp only[jR,wT,qC]) (yw _ 0) rfl)
 exact h
end Lp
namespace Lp
open Go Go.Proofs
open List (mem_singleton)
theorem aW.ab2 {P:Program}{D:TypeId→aD}{T:Know}{f:FuncId}{n t u:Nat}{ty uy:TypeId}{C:LC}{args:List PV}{r:PV}(h:aW P f n [.cell t ty,.cell u uy] C)(d:Nat)(hD:∀t,fB P t (D t))(hT:tL P none sJ T)(hm:P.follows .mixedOrders=true)(ht:t<n)(hu:u<n)
  (hw:∀Q:Exit→St→Prop,(∀l ob,Q .ret ⟨dD n l,ob⟩=eD (D ty) (qK l t) ob λp _ _=>eD (D uy) (qK l u) ob λq _ _=>r=.bY [jG d 0 ob p,jG d 0 ob q])→iK P D T C Q (aY args n)):av P f args [] r []:=by
 refine h.pure d hD hT hm (by simp) (hw _ λl ob=>?_)
 simp only[Bv,kT,uI.2.1 n l t ht,uI.2.1 n l u hu,List.map_cons,List.map_nil,fU]
def aN:Vl→Int
 | []=>0
 | n::_=>n.kind
def gP(v:Vl)(nm:List UInt8):Option Vl:=if aN v=6 then iZ (jm v) nm else none
def bN(v:Vl)(nm:List UInt8):Vl:=(gP v nm).getD []
def eY(v:Vl)(nm:List UInt8):Bool:=(gP v nm).isSome
def jC(v:Vl)(nm:List UInt8):PV:=match gP v nm with
 | some x=>.bY [aj x,.bool true]
 | none=>.bY [.sl 0 [] (some true),.bool false]
theorem XP{ps:List Vl}{nm:List UInt8}{i:Nat}{p:Vl}(h:ps[i]?=some p)(hp:nameOf p=nm)(hb:∀(j:Nat) q,j<i→ps[j]?=some q→nameOf q≠nm):iZ (ps.map λp=>(nameOf p,gI p)) nm=some (gI p):=by
 have:(ps.map λp=>(nameOf p,gI p)).find? (λx=>decide (x.1=nm))=some (nameOf p,gI p):=by
  rw[List.find?_eq_some_iff_getElem]
  obtain⟨hi,he⟩:=List.getElem?_eq_some_iff.1 h
  refine⟨by simp[hp],i,by simpa using hi,by simp[he],λj hj=>?_⟩
  have:=hb j _ hj (List.getElem?_eq_getElem (by omega))
  simpa using this
 simp[iZ,this]
theorem Vw{ps:List Vl}{nm:List UInt8}(hb:∀(j:Nat) q,ps[j]?=some q→nameOf q≠nm):iZ (ps.map λp=>(nameOf p,gI p)) nm=none:=by
 rw[nL]
 intro h
 simp only[List.map_map,List.mem_map,Function.comp]at h
 obtain⟨p,hp,rfl⟩:=h
 obtain⟨i,hi⟩:=List.mem_iff_getElem?.1 hp
 exact hb i p hi rfl
def OV(nm:List UInt8)(x:PV)(b:Bool):List Obj:=[⟨9,1,[.str nm],true,1⟩,⟨23,1,[x],true,1⟩,⟨4,1,[.bool b],true,1⟩]
theorem bC.lt {O:List Obj}(h:bC O):bI O:=λo ho x hx c hc=>by
 have:=h o ho x hx c hc
 cases c<;>first | rfl | (simp[PV.ref]at this)
theorem Kt(nm:List UInt8){x:PV}(b:Bool)(h1:x.cells=[x])(h2:x.ref=false):bC (OV nm x b++[vU,hole]):=by
 intro o ho y hy c hc
 simp only[OV,List.cons_append,List.nil_append,List.mem_cons,List.not_mem_nil,or_false]at ho
 rcases ho with rfl | rfl | rfl | rfl | rfl
 ·simp only[mem_singleton]at hy;subst hy
  simp only[PV.cells,mem_singleton]at hc;subst hc;rfl
 ·simp only[mem_singleton]at hy;subst hy
  rw[h1]at hc
  simp only[mem_singleton]at hc;subst hc;exact h2
 ·simp only[mem_singleton]at hy;subst hy
  simp only[PV.cells,mem_singleton]at hc;subst hc;rfl
 ·cases hy
 ·cases hy
theorem TP(nm:List UInt8){x:PV}(b:Bool)(h1:x.cells=[x])(h2:x.ref=false):Gh 3 (OV nm x b++[vU,hole]):=⟨Nat.le_refl _,(Kt nm b h1 h2).lt,rfl,rfl⟩
theorem RV(v:Vl)(nm:List UInt8)(hr:Rt v)(hl:v.length≤1000000):av Tryz.prog 56 [aj v,.str nm] [] (jC v nm) []:=by
 refine Ot.ab2 (T:=bA Tryz.prog [(80,kU)]) 1 hD (ay (af rq au)) bE (by decide) (by decide) λQ hQ=>?_
 obtain⟨n,r,rfl,_⟩:=bS hr.name hr.one.ne
 generalize hv:n::r=v at *
 have hg0:v[0]?=some n:=by rw[←hv];rfl
 have hkv:aN v=n.kind:=by rw[←hv];rfl
 by_cases hk:n.kind=6
 rotate_left 1
 ·have k6:(n.kind=6)=False:=eq_false hk
  have hres:jC v nm=.bY [.sl 0 [] (some true),.bool false]:=by simp[jC,gP,hkv,hk]
  (conv=>arg 4;cbv);simp (maxSteps:=400000) only[↓aG,aH,BEq.rfl,seval,hQ,hg0,k6]
  exact⟨by decide,rfl,by decide,rfl,by rw[hres];rfl⟩
 have k6:(n.kind=6)=True:=eq_true hk
 obtain⟨ps,hP,ab3,hpl,hnm,hgv⟩:=uM v hr hl
 have ab4:aJ v=ps.map nameOf:=by
  rcases hnm with h | ⟨n',r',h1,h2⟩
  ·exact h
  ·rw[←hv]at h1;cases h1;exact absurd hk h2
 have Md:jm v=ps.map λp=>(nameOf p,gI p):=by rw[jm,ab4,hP,A8]
 (conv=>arg 4;cbv);simp (maxSteps:=400000) only[↓aG,aH,BEq.rfl,seval,hQ,hg0,k6,↓kU]
 refine ZB 107 [.addr (aj v)] (ps.map rowOf)
  (λi O=>(∀(j:Nat) q,j<i→ps[j]?=some q→nameOf q≠nm)∧i≤ps.length∧O=OV nm (.sl 0 [] (some true)) false++[vU,hole])
  (λi O=>∃p,ps[i]?=some p∧nameOf p=nm∧(∀(j:Nat) q,j<i→ps[j]?=some q→nameOf q≠nm)∧O=OV nm (aj (gI p)) true++[vU,hole]) .ret rfl rfl rfl rfl trivial hgv (yo ps) ⟨λj q h=>absurd h (Nat.not_lt_zero j),Nat.zero_le _,rfl⟩ ?_ ?_ ?_ ?_ ?_
 ·rintro i O ⟨_,_,rfl⟩
  exact TP nm false rfl rfl
 ·rintro i O ⟨p,_,_,_,rfl⟩
  exact⟨TP nm true rfl rfl,Kt nm true rfl rfl⟩
 ·rintro i args O ⟨hb,hi,rfl⟩ ha
  obtain⟨p,hpi,rfl⟩:=yt ha
  have hil:=(List.getElem?_eq_some_iff.1 hpi).1
  unfold OV
  by_cases he:nameOf p=nm
  ·have he':(nameOf p=nm)=True:=eq_true he
   simp (maxSteps:=400000) only[↓aG,aH,BEq.rfl,seval,hQ,jH,Wl,he']
   exact⟨rfl,p,hpi,he,hb,rfl⟩
  ·have he':(nameOf p=nm)=False:=eq_false he
   simp (maxSteps:=400000) only[↓aG,aH,BEq.rfl,seval,hQ,jH,Wl,he']
   refine⟨λj q hj hq=>?_,by omega,rfl⟩
   rcases Nat.lt_or_ge j i with g | g
   ·exact hb j q g hq
   ·have:j=i:=by omega
    subst this
    rw[hpi]at hq;cases hq;exact he
 ·rintro O ⟨hb,hi,rfl⟩
  unfold OV
  simp (maxSteps:=400000) only[↓aG,aH,BEq.rfl,seval,hQ]
  have hres:jC v nm=.bY [.sl 0 [] (some true),.bool false]:=by
   have:iZ (jm v) nm=none:=by
    rw[Md]
    refine Vw λj q hq=>hb j q ?_ hq
    rw[List.length_map]
    exact (List.getElem?_eq_some_iff.1 hq).1
   simp[jC,gP,this]
  exact⟨by decide,rfl,by decide,rfl,by rw[hres];rfl⟩
 ·rintro i O hi ⟨p,hpi,he,hb,rfl⟩
  unfold OV
  simp (maxSteps:=400000) only[↓aG,aH,BEq.rfl,seval,hQ]
  have hres:jC v nm=.bY [aj (gI p),.bool true]:=by
   have:iZ (jm v) nm=some (gI p):=by rw[Md];exact XP hpi he hb
   simp[jC,gP,hkv,hk,this]
  rw[hres]
  exact⟨_,_,rfl,rfl,rfl,rfl,Nat.le_refl _,rfl,_,_,rfl,rfl,rfl,rfl,Nat.le_refl _,rfl,rfl⟩
theorem zJ(v:Vl)(nm:List UInt8):fG (jC v nm) (.bY [aj (bN v nm),.bool (eY v nm)]):=by
 unfold jC bN eY
 split
 ·rename_i x h;rw[h];exact .refl _
 ·rename_i h;rw[h];exact Dm (.inr rfl) (gF 0 6) (.refl _)
theorem OW(v:Vl)(nm:List UInt8)(hr:Rt v)(hl:v.length≤1000000):av Tryz.prog 56 [aj v,.str nm] [] (.bY [aj (bN v nm),.bool (eY v nm)]) []:=(RV v nm hr hl).res (zJ v nm)
def fH:d9:=λargs objs K=>match args with
 | [a0,.str nm]=>gD aj a0 (HK.mk:HK λv=>(Rt v)∧(v.length≤1000000)∧K (.bY [aj (bN v nm),.bool (eY v nm)]) objs 0)
 | _=>False
theorem wV:aR Tryz.prog 56 (fH):=by
 intro args objs K h
 unfold fH at h
 split at h
 ·rename_i a0 nm
  obtain⟨v,rfl,h1,h2,hk⟩:=h
  exact⟨_,_,_,.pure _ rfl (OW v nm h1 h2),hk⟩
 ·exact h.elim
end Lp
namespace Lp
open Go Go.Proofs Go.RowKit Go.Sort
def nD(ss:List (List UInt8)):List (List UInt8):=ss.mergeSort λx y=>decide (x≤y)
theorem BU(ss:List (List UInt8)):(nD ss).length=ss.length:=List.length_mergeSort _
end Lp
