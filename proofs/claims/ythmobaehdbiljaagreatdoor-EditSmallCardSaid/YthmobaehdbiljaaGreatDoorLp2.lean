/-
  Part 2 of what the statement rests on: LpL, LpM. No condition.
-/
import Derived.Test.YthmobaehdbiljaaGreatDoorLp1
import Derived.OrdersIn

set_option linter.all false
set_option maxHeartbeats 8000000
set_option maxRecDepth 100000
namespace Lp
open Go
def co(t:Nat):Nat:=if t≤2 then t else if t % 2=0 then 1 else 2
theorem aao(k:Nat):co (4+2*k)=1:=by unfold co;rw[if_neg (by omega),if_pos (by omega)]
theorem Tc(k:Nat):co (5+2*k)=2:=by unfold co;rw[if_neg (by omega),if_neg (by omega)]
theorem Td{t:Nat}(h:t≠0):co t≠0:=by unfold co;split<;> (try split)<;>omega
def Mk(mk:Nat→PV):Prop:=mk=(λn=>.aZ n 1)∨mk=(λn=>.bq n 1 0 0)∨mk=(λn=>.gI n 1)
structure Y0 (A:List Obj→KT→Prop) (objs:List Obj) (r:PV) (o:List Obj) (t:Nat):Prop where
 rd:∀k,t=4+2*k→o=objs∧k<objs.length∧∀(bP:List Obj) (K':KT),bP[k]?=objs[k]?→K' r bP t→A bP K'
 wr:∀k,t=5+2*k→(∃o1,k<objs.length∧o=objs.set k o1∧∀(bP:List Obj) (K':KT),bP[k]?=objs[k]?→K' r (bP.set k o1) t→A bP K')∨
  (k=objs.length∧∃o1 mk,Mk mk∧r=mk k∧o=objs++[o1]∧o1.live=true∧o1.ver=1∧∀(bP:List Obj) (K':KT),K' (mk bP.length) (bP++[o1]) (5+2*bP.length)→A bP K')
def wL(A:List Obj→KT→Prop)(objs:List Obj)(K:KT):Prop:=
 ∃r o t,K r o t∧(co t≠2→o=objs)∧(∀K':KT,K' r o t→A objs K')∧(t=0→∀(bP:List Obj) (K':KT),K' r bP 0→A bP K')∧Y0 A objs r o t
theorem Y0.few {A:List Obj→KT→Prop}{objs:List Obj}{r:PV}{o:List Obj}{t:Nat}(h:t≤2):Y0 A objs r o t:=⟨λk e=>by omega,λk e=>by omega⟩
variable {P:Program}{D:TypeId→aC}{ev:Operand→PV}{objs:List Obj}{K:KT}
theorem wL.zero {A:List Obj→KT→Prop}{r:PV}(hK:K r objs 0)(h:∀(o:List Obj) (K':KT),K' r o 0→A o K'):wL A objs K:=⟨r,objs,0,hK,λ_=>rfl,h _,λ_ o=>h o,.few (by decide)⟩
theorem wL.rd {A:List Obj→KT→Prop}{r:PV}(k:Nat){o:Obj}(hk:objs[k]?=some o)(hK:K r objs (4+2*k))(h:∀(bP:List Obj) (K':KT),bP[k]?=objs[k]?→K' r bP (4+2*k)→A bP K'):wL A objs K:=
 ⟨r,objs,_,hK,λ_=>rfl,λK' hk=>h objs K' rfl hk,λe=>by omega,λk' e=>by
  have:k'=k:=by omega
  subst this;exact⟨rfl,(List.getElem?_eq_some_iff.1 hk).1,λbP K' he hk=>h bP K' he hk⟩,λk' e=>by omega⟩
theorem wL.wr {A:List Obj→KT→Prop}{r:PV}(k:Nat){o:Obj}(o1:Obj)(hk:objs[k]?=some o)(hK:K r (objs.set k o1) (5+2*k))
  (h:∀(bP:List Obj) (K':KT),bP[k]?=objs[k]?→K' r (bP.set k o1) (5+2*k)→A bP K'):wL A objs K:=
 ⟨r,_,_,hK,λe=>absurd (Tc k) e,λK' hk=>h objs K' rfl hk,λe=>by omega,λk' e=>by omega,λk' e=>by
  have:k'=k:=by omega
  subst this;exact .inl ⟨o1,(List.getElem?_eq_some_iff.1 hk).1,rfl,λbP K' he hk=>h bP K' he hk⟩⟩
theorem wL.new {A:List Obj→KT→Prop}(mk:Nat→PV)(hm:Mk mk)(o1:Obj)(hl:o1.live=true)(hv:o1.ver=1)(hK:K (mk objs.length) (objs++[o1]) (5+2*objs.length))
  (h:∀(bP:List Obj) (K':KT),K' (mk bP.length) (bP++[o1]) (5+2*bP.length)→A bP K'):wL A objs K:=
 ⟨_,_,_,hK,λe=>absurd (Tc _) e,λK' hk=>h objs K' hk,λe=>by omega,λk' e=>by omega,λk' e=>by
  have:k'=objs.length:=by omega
  subst this;exact .inr ⟨rfl,o1,mk,hm,rfl,rfl,hl,hv,h⟩⟩
theorem wL.two {A:List Obj→KT→Prop}{r:PV}{o:List Obj}(hK:K r o 2)(h:∀K':KT,K' r o 2→A objs K'):wL A objs K:=⟨r,o,2,hK,λe=>absurd (by decide) e,h,λe=>absurd e (by decide),.few (by decide)⟩
def NP(A:(PV→Prop)→Prop)(K:PV→Prop):Prop:=∃r,K r∧∀K':PV→Prop,K' r→A K'
theorem NP.fac {A:(PV→Prop)→Prop}(h:NP A (λr=>K r objs 0)):wL (λo K=>A (λr=>K r o 0)) objs K:=by
 obtain⟨r,h1,h2⟩:=h
 exact .zero h1 λo K' hk=>h2 _ hk
theorem UA{op:BinOp}{k k':IntKind}{x y:Int}{K:PV→Prop}(h:rR op k k' x y K):NP (rR op k k' x y) K:=by
 cases op<;>simp only[rR]at h<;> (first
  | (obtain⟨h1,h2,h3,h4⟩:=h;exact⟨_,h4,λ_ hk=>⟨h1,h2,h3,hk⟩⟩)
  | (obtain⟨h1,h2,h3⟩:=h;exact⟨_,h3,λ_ hk=>⟨h1,h2,hk⟩⟩)
  | (obtain⟨h1,h2⟩:=h;exact⟨_,h2,λ_ hk=>⟨h1,hk⟩⟩))
theorem UB{op:BinOp}{x y:List UInt8}{K:PV→Prop}(h:iY op x y K):NP (iY op x y) K:=by
 cases op<;>simp only[iY]at h<;> (first
  | exact h.elim
  | (obtain⟨h1,h2⟩:=h;exact⟨_,h2,λ_ hk=>⟨h1,hk⟩⟩)
  | exact⟨_,h,λ_ hk=>hk⟩)
theorem UC{ti:aC}{t:TypeId}{op:BinOp}{x y:PV}{K:PV→Prop}(h:oM P ti t op x y K):NP (oM P ti t op x y) K:=by
 unfold oM at h
 split at h
 ·exact UA h
 ·exact UB h
 ·obtain⟨h1,h⟩:=h
  cases op<;>simp only[]at h<;>first | exact h.elim | exact⟨_,h,λ_ hk=>⟨h1,hk⟩⟩
 ·obtain⟨h1,r,h2,h⟩:=h
  cases op<;>simp only[]at h<;>first | exact h.elim | exact⟨_,h,λ_ hk=>⟨h1,r,h2,hk⟩⟩
 ·obtain⟨h1,h⟩:=h
  cases op<;>simp only[]at h<;>first | exact h.elim | exact⟨_,h,λ_ hk=>⟨h1,hk⟩⟩
 ·exact h.elim
theorem WC{op:UnOp}{x:PV}{K:PV→Prop}(h:Nn op x K):NP (Nn op x) K:=by
 unfold Nn at h
 split at h
 ·exact⟨_,h,λ_ hk=>hk⟩
 ·exact⟨_,h.2,λ_ hk=>⟨h.1,hk⟩⟩
 ·exact h.elim
theorem QG{s d:aC}{x:PV}{K:PV→Prop}(h:qg s d x K):NP (qg s d x) K:=by
 unfold qg at h
 split at h
 ·rename_i e;exact⟨_,h.2,λ_ hk=>by unfold qg;rw[e];exact⟨h.1,hk⟩⟩
 ·rename_i e;exact⟨_,h.2,λ_ hk=>by unfold qg;rw[e];exact⟨h.1,hk⟩⟩
 ·rename_i e;exact⟨_,h.2,λ_ hk=>by unfold qg;rw[e];exact⟨h.1,hk⟩⟩
 ·exact h.elim
theorem Em{m:Bool}{xs:List PV}{K:PV→Prop}(h:gX m xs K):NP (gX m xs) K:=by
 unfold gX at h
 split at h
 ·exact⟨_,h.2,λ_ hk=>⟨h.1,hk⟩⟩
 ·exact h.elim
theorem WE{c x y:PV}(h:vR c x y objs K):wL (vR c x y) objs K:=by
 unfold vR at h
 split at h
 ·exact .zero h λ_ _ hk=>hk
 ·exact h.elim
theorem WG{ti:aC}{p:PV}(h:fq ti p objs K):wL (fq ti p) objs K:=by
 unfold fq at h
 split at h
 ·obtain⟨h1,h2,h3,h4⟩:=h
  exact .zero h4 λ_ _ hk=>⟨h1,h2,h3,hk⟩
 ·obtain⟨o,e,h1,h2,h3,h4,h5,h6,h7,h8,h9⟩:=h
  exact .rd _ h1 h9 λ_ _ he hk=>⟨o,e,he.trans h1,h2,h3,h4,h5,h6,h7,h8,hk⟩
 ·exact h.elim
theorem UD{ti:aC}{p v:PV}(h:jD ti p v objs K):wL (jD ti p v) objs K:=by
 unfold jD at h
 split at h
 ·obtain⟨o,e,h1,h2,h3,h4,h5,h6,h7,h8,h9,h10⟩:=h
  exact .wr _ _ h1 h10 λ_ _ he hk=>⟨o,e,he.trans h1,h2,h3,h4,h5,h6,h7,h8,h9,hk⟩
 ·exact h.elim
theorem wM{t:TypeId}{f:Nat}{X:Nat→aC→Prop}(h:d9 D t f X):∃off ti,X off ti∧∀X':Nat→aC→Prop,X' off ti→d9 D t f X':=by
 unfold d9 at h
 split at h
 ·rename_i fs hk
  obtain⟨x,h1,h2,h3,h4⟩:=h
  exact⟨_,_,h4,λX' hx=>by unfold d9;rw[hk];exact⟨x,h1,h2,h3,hx⟩⟩
 ·exact h.elim
theorem IX{t:TypeId}{p:PV}{f:Nat}(h:aV D t p f objs K):wL (aV D t p f) objs K:=by
 unfold aV at h
 split at h
 ·obtain⟨off,ti,⟨h1,h2,h3,h4⟩,g⟩:=wM h
  exact .zero h4 λ_ _ hk=>by unfold aV;exact g _ ⟨h1,h2,h3,hk⟩
 ·obtain⟨o,h1,h2,h3,h⟩:=h
  obtain⟨off,ti,h4,g⟩:=wM h
  exact .rd _ h1 h4 λ_ _ he hk=>⟨o,he.trans h1,h2,h3,g _ hk⟩
 ·exact h.elim
theorem UE{t:TypeId}{p:PV}{f:Nat}(h:oN D t p f objs K):wL (oN D t p f) objs K:=by
 unfold oN at h
 split at h
 ·obtain⟨off,ti,⟨h1,h2⟩,g⟩:=wM h
  exact .zero h2 λ_ _ hk=>by unfold oN;exact g _ ⟨h1,hk⟩
 ·exact h.elim
theorem IY{t:TypeId}{x i:PV}(h:bF D t x i objs K):wL (bF D t x i) objs K:=by
 unfold bF at h
 split at h<;> (try rename_i hk)
 ·rename_i e _ _ _ _ _ hk
  obtain⟨h1,h2,y,h3,h4,h5⟩:=h
  exact .zero h5 λ_ _ hk'=>by unfold bF;rw[hk];exact⟨h1,h2,y,h3,h4,hk'⟩
 ·rename_i e _ _ _ _ hk
  obtain⟨h1,h2,o,h3,h4,h5,h6,h7,h8⟩:=h
  exact .rd _ h3 h8 λ_ _ he hk'=>by unfold bF;rw[hk];exact⟨h1,h2,o,he.trans h3,h4,h5,h6,h7,hk'⟩
 ·rename_i m e _ _ _ hk
  obtain⟨h1,h2,h3,h4,h5,h6,h7⟩:=h
  exact .zero h7 λ_ _ hk'=>by unfold bF;rw[hk];exact⟨h1,h2,h3,h4,h5,h6,hk'⟩
 ·rename_i m e _ _ _ _ _ _ hk
  obtain⟨h1,h2,h3,o,h4,h5,h6,h7⟩:=h
  exact .rd _ h4 h7 λ_ _ he hk'=>by unfold bF;rw[hk];exact⟨h1,h2,h3,o,he.trans h4,h5,h6,hk'⟩
 ·exact h.elim
theorem UF{t:TypeId}{x i:PV}(h:lC D t x i objs K):wL (lC D t x i) objs K:=by
 unfold lC at h
 split at h<;> (try rename_i hk)
 ·obtain⟨h1,b,h2,h3⟩:=h
  exact .zero h3 λ_ _ hk'=>by unfold lC;rw[hk];exact⟨h1,b,h2,hk'⟩
 ·obtain⟨h1,h2,h3,h4,h5,h6⟩:=h
  exact .zero h6 λ_ _ hk'=>by unfold lC;rw[hk];exact⟨h1,h2,h3,h4,h5,hk'⟩
 ·exact h.elim
theorem lD{x:Option PV}{d:Int}{X:Int→Prop}(h:cB x d X):∃n,X n∧∀X':Int→Prop,X' n→cB x d X':=by
 unfold cB at h
 split at h
 ·exact⟨_,h,λ_ hx=>hx⟩
 ·exact⟨_,h,λ_ hx=>hx⟩
 ·exact h.elim
theorem UG{t:TypeId}{x:PV}{lo hi:Option PV}(h:iK D t x lo hi objs K):wL (iK D t x lo hi) objs K:=by
 unfold iK at h
 split at h<;> (try rename_i hk)
 ·obtain⟨l,h,g1⟩:=lD h
  obtain⟨m,⟨h1,h2,h3,h4⟩,g2⟩:=lD h
  exact .zero h4 λ_ _ hk'=>by unfold iK;rw[hk];exact g1 _ (g2 _ ⟨h1,h2,h3,hk'⟩)
 ·obtain⟨e1,e2,h⟩:=h
  obtain⟨l,h,g1⟩:=lD h
  obtain⟨m,⟨h1,h2,h3,h4⟩,g2⟩:=lD h
  exact .zero h4 λ_ _ hk'=>by unfold iK;rw[hk];exact⟨e1,e2,g1 _ (g2 _ ⟨h1,h2,h3,hk'⟩)⟩
 ·obtain⟨e1,o,e2,e3,e4,e5,e6,h⟩:=h
  obtain⟨m,⟨h1,h2,h3⟩,g2⟩:=lD h
  exact .wr _ _ e2 h3 λ_ _ he hk'=>by unfold iK;rw[hk];exact⟨e1,o,he.trans e2,e3,e4,e5,e6,g2 _ ⟨h1,h2,hk'⟩⟩
 ·obtain⟨e1,e2,e3,e4,e5,e6,h⟩:=h
  obtain⟨l,h,g1⟩:=lD h
  obtain⟨m,⟨h1,h2,h3,h4⟩,g2⟩:=lD h
  exact .zero h4 λ_ _ hk'=>by unfold iK;rw[hk];exact⟨e1,e2,e3,e4,e5,e6,g1 _ (g2 _ ⟨h1,h2,h3,hk'⟩)⟩
 ·exact h.elim
theorem Y1{t:TypeId}{x:PV}(h:qP D t x objs K):wL (qP D t x) objs K:=by
 unfold qP at h
 split at h<;> (try rename_i hk)
 ·exact .zero h λ_ _ hk'=>by unfold qP;rw[hk];exact hk'
 ·exact .zero h λ_ _ hk'=>by unfold qP;rw[hk];exact hk'
 ·obtain⟨o,e2,e3,e4,h⟩:=h
  exact .rd _ e2 h λ_ _ he hk'=>by unfold qP;rw[hk];exact⟨o,he.trans e2,e3,e4,hk'⟩
 ·exact h.elim
theorem Dc{place:Nat→Option (Nat×Nat)}:∀{parts:List (Nat×PV)}{cs:List PV}{X:List PV→Prop},o8 place cs parts X→∃cs',X cs'∧∀X':List PV→Prop,X' cs'→o8 place cs parts X'
 | [],cs,_,h=>⟨cs,h,λ_ hx=>hx⟩
 | (_,_)::_,_,_,⟨x,h1,h2,h3,h⟩=>
  let ⟨cs',g1,g2⟩:=Dc h
  ⟨cs',g1,λ_ hx=>⟨x,h1,h2,h3,g2 _ hx⟩⟩
theorem UH{t:TypeId}{ps:List (Nat×PV)}(h:dH D t ps objs K):wL (dH D t ps) objs K:=by
 obtain⟨a1,a2,a3,h⟩:=h
 unfold oO at h
 split at h<;> (try rename_i hk)
 ·obtain⟨h1,h⟩:=h
  obtain⟨cs,h2,g⟩:=Dc h
  exact .zero h2 λ_ _ hk'=>⟨a1,a2,a3,by unfold oO;rw[hk];exact⟨h1,g _ hk'⟩⟩
 ·obtain⟨h1,h⟩:=h
  obtain⟨cs,h2,g⟩:=Dc h
  exact .zero h2 λ_ _ hk'=>⟨a1,a2,a3,by unfold oO;rw[hk];exact⟨h1,g _ hk'⟩⟩
 ·exact h.elim
theorem Gg{own:Bool}{t:TypeId}{n:Nat}{ps:List (Nat×PV)}(h:bM D own t n ps objs K):wL (bM D own t n ps) objs K:=by
 unfold bM at h
 split at h<;> (try rename_i hk)
 ·obtain⟨h1,h2,h3,h4,h5,h6,h7⟩:=h
  cases own with
  | true=>
   simp only[if_true]at h7
   exact .new (λn=>.aZ n 1) (.inl rfl) _ rfl rfl h7 λ_ _ hk'=>by unfold bM;rw[hk];exact⟨h1,h2,h3,h4,h5,h6,hk'⟩
  | false=>
   simp only[Bool.false_eq_true,if_false]at h7
   exact .zero h7 λ_ _ hk'=>by unfold bM;rw[hk];exact⟨h1,h2,h3,h4,h5,h6,hk'⟩
 ·exact h.elim
theorem IZ{t:TypeId}{l c:PV}(h:fe D t l c objs K):wL (fe D t l c) objs K:=by
 unfold fe at h
 split at h<;> (try rename_i hk)
 ·obtain⟨h1,h2,h3,h4,h5,h6,h7,h8,h9⟩:=h
  exact .new (λn=>.aZ n 1) (.inl rfl) _ rfl rfl h9 λ_ _ hk'=>by unfold fe;rw[hk];exact⟨h1,h2,h3,h4,h5,h6,h7,h8,hk'⟩
 ·exact h.elim
theorem WH{t:TypeId}{x:PV}{X:List PV→Bool→Prop}(h:nE D t x objs X):∃ys q,X ys q∧(∀X':List PV→Bool→Prop,X' ys q→nE D t x objs X')∧
  (q=false→∀(bP:List Obj) (X':List PV→Bool→Prop),X' ys q→nE D t x bP X'):=by
 unfold nE at h
 split at h<;> (try rename_i hk)
 ·exact⟨_,_,h,λ_ hx=>by unfold nE;rw[hk];exact hx,λ_ _ _ hx=>by unfold nE;rw[hk];exact hx⟩
 ·obtain⟨o,h1,h2,h3,h⟩:=h
  exact⟨_,_,h,λ_ hx=>by unfold nE;rw[hk];exact⟨o,h1,h2,h3,hx⟩,λe=>by cases e⟩
 ·exact⟨_,_,h,λ_ hx=>by unfold nE;rw[hk];exact hx,λ_ _ _ hx=>by unfold nE;rw[hk];exact hx⟩
 ·exact h.elim
theorem QH{t u:TypeId}{s x:PV}(h:dO D t u s x objs K):wL (dO D t u s x) objs K:=by
 unfold dO at h
 split at h<;> (try rename_i hk)
 ·obtain⟨h1,h2,h3,h4,h⟩:=h
  obtain⟨ys,q,⟨hy,h⟩,g,g2⟩:=WH h
  split at h
  ·rename_i k ver
   obtain⟨o,e1,e2,e3,e4,e5,e6,e7,e8,e9⟩:=h
   cases q with
   | true=>exact .two e9 λ_ hk'=>by unfold dO;rw[hk];exact⟨h1,h2,h3,h4,g _ ⟨hy,o,e1,e2,e3,e4,e5,e6,e7,e8,hk'⟩⟩
   | false=>exact .wr _ _ e1 e9 λ_ _ he hk'=>by unfold dO;rw[hk];exact⟨h1,h2,h3,h4,g2 rfl _ _ ⟨hy,o,he.trans e1,e2,e3,e4,e5,e6,e7,e8,hk'⟩⟩
  ·obtain⟨e1,e2,e3,e4,e5,e6⟩:=h
   cases q with
   | true=>exact .two e6 λ_ hk'=>by unfold dO;rw[hk];exact⟨h1,h2,h3,h4,g _ ⟨hy,e1,e2,e3,e4,e5,hk'⟩⟩
   | false=>exact .new (λn=>.aZ n 1) (.inl rfl) _ rfl rfl e6 λ_ _ hk'=>by unfold dO;rw[hk];exact⟨h1,h2,h3,h4,g2 rfl _ _ ⟨hy,e1,e2,e3,e4,e5,hk'⟩⟩
  ·obtain⟨e1,e2,e3⟩:=h
   cases q with
   | true=>exact .two e3 λ_ hk'=>by unfold dO;rw[hk];exact⟨h1,h2,h3,h4,g _ ⟨hy,e1,e2,hk'⟩⟩
   | false=>exact .new (λn=>.aZ n 1) (.inl rfl) _ rfl rfl e3 λ_ _ hk'=>by unfold dO;rw[hk];exact⟨h1,h2,h3,h4,g2 rfl _ _ ⟨hy,e1,e2,hk'⟩⟩
  ·exact h.elim
 ·exact h.elim
theorem Ll{x:PV}(h:dx x objs K):wL (dx x) objs K:=by
 unfold dx at h
 split at h
 ·exact .zero h λ_ _ hk=>hk
 ·obtain⟨o,h1,h2,h3,h⟩:=h
  exact .rd _ h1 h λ_ _ he hk=>⟨o,he.trans h1,h2,h3,hk⟩
 ·exact h.elim
theorem WI{s t:TypeId}{x:PV}(h:qX D s t x objs K):wL (qX D s t x) objs K:=by
 by_cases hx:∃k ver,x=.aZ k ver
 ·obtain⟨k,ver,rfl⟩:=hx
  obtain⟨ob,bs,h1,h2,h3,h4,h5,h6,h7,h8,h9⟩:=h
  exact .rd k h1 h9 λbP K' he hk=>⟨ob,bs,by rw[he];exact h1,h2,h3,h4,h5,h6,h7,h8,hk⟩
 ·have e:∀(objs:List Obj) (K:KT),qX D s t x objs K=qg (D s) (D t) x λr=>K r objs 0:=λobjs K=>F8 λk ver e=>hx ⟨k,ver,e⟩
  rw[e]at h
  have e2:qX D s t x=λ(o:List Obj) (K:KT)=>qg (D s) (D t) x λr=>K r o 0:=by funext o K;exact e o K
  rw[e2]
  exact (QG h).fac
theorem ER{f:FuncId}{args:List PV}{r:PV}{o:List Obj}(h:mO P f args objs r o 0)(bP:List Obj):o=objs∧mO P f args bP r bP 0:=by
 cases h with
 | pure _ ha h=>exact⟨rfl,.pure _ ha h⟩
theorem NQ{f:FuncId}{args:List PV}{r:PV}{o:List Obj}{t:Nat}(h:mO P f args objs r o t)(ht:co t≠2):o=objs:=by
 cases h with
 | pure _ ha h=>rfl
 | made _ _ _ _ _=>exact absurd (by decide) ht
 | used _ _ _=>exact absurd (by decide) ht
 | J7 _ _ _ _ _ _=>exact absurd (by decide) ht
 | Nv _ _ _ _ _ _ _ _=>exact absurd (by decide) ht
 | Wx _ _ _ _ _=>rfl
theorem WJ{f:PV}{args:List PV}(h:Gc P f args objs K):wL (Gc P f args) objs K:=by
 unfold Gc at h
 split at h
 ·obtain⟨r,o,t,hc,hK⟩:=h
  refine⟨r,o,t,hK,NQ hc,λ_ hk=>⟨r,o,t,hc,hk⟩,?_,.few (by cases hc<;>decide)⟩
  intro ht bP K' hk
  subst ht
  exact⟨r,bP,0,(ER hc bP).2,hk⟩
 ·exact h.elim
theorem NR{t:TypeId}(h:mM D t objs K):wL (mM D t) objs K:=by
 unfold mM at h
 split at h
 ·rename_i k e hk
  exact .new (λn=>.gI n 1) (.inr (.inr rfl)) _ rfl rfl h λ_ _ hk'=>by unfold mM;rw[hk];exact hk'
 ·exact h.elim
theorem QI{t:TypeId}{x ix:PV}{ok:Bool}(h:jH D t x ix ok objs K):wL (jH D t x ix ok) objs K:=by
 unfold jH at h
 split at h
 ·rename_i kt et k ver hk
  obtain⟨h1,h2,o,h3,h4,h5,h6,m,h7,h8⟩:=h
  exact .rd _ h3 h8 λ_ _ he hk'=>by unfold jH;rw[hk];exact⟨h1,h2,o,he.trans h3,h4,h5,h6,m,h7,hk'⟩
 ·exact h.elim
theorem zJ{t:TypeId}{x y z:PV}(h:fF D t x y z objs K):wL (fF D t x y z) objs K:=by
 unfold fF at h
 split at h
 ·rename_i kt et k ver hk
  obtain⟨h1,h2,h2',o,h3,h4,h5,h6,m,h7,h8⟩:=h
  exact .wr _ _ h3 h8 λ_ _ he hk'=>by unfold fF;rw[hk];exact⟨h1,h2,h2',o,he.trans h3,h4,h5,h6,m,h7,hk'⟩
 ·exact h.elim
theorem UI{t:TypeId}{x:PV}(h:uD D t x objs K):wL (uD D t x) objs K:=by
 unfold uD at h
 split at h
 ·rename_i kt et k ver hk
  obtain⟨o,h1,h2,h3,h4,h5⟩:=h
  exact .two h5 λK' hk'=>by unfold uD;rw[hk];exact⟨o,h1,h2,h3,h4,hk'⟩
 ·exact h.elim
theorem UJ{x:PV}(h:uE x objs K):wL (uE x) objs K:=by
 unfold uE at h
 split at h
 ·rename_i j ver
  obtain⟨k,kv,n,seen,i,mo,key,v,h1,h2,h3,h4,h5,h6,h7,h8⟩:=h
  exact⟨_,objs,1,h8,λ_=>rfl,λK' hk'=>⟨k,kv,n,seen,i,mo,key,v,h1,h2,h3,h4,h5,h6,h7,hk'⟩,λe=>absurd e (by decide),.few (by decide)⟩
 ·exact h.elim
theorem Te{own:Bool}{op:Op}(h:II P D own ev objs op K):wL (λo K=>II P D own ev o op K) objs K:=by
 unfold II at h
 split at h
 ·exact .zero h λ_ _ hk=>hk
 ·exact .zero h λ_ _ hk=>hk
 ·exact WE h
 ·obtain⟨h1,h2,h3,h4⟩:=h
  exact .new (λn=>.bq n 1 0 0) (.inr (.inl rfl)) _ rfl rfl h4 λ_ _ hk=>⟨h1,h2,h3,hk⟩
 ·obtain⟨h1,h2,h3,h4⟩:=h
  exact .new (λn=>.bq n 1 0 0) (.inr (.inl rfl)) _ rfl rfl h4 λ_ _ hk=>⟨h1,h2,h3,hk⟩
 ·exact UH h
 ·exact Gg h
 ·exact WG h
 ·exact UD h
 ·exact Ll h
 ·exact (UC h).fac
 ·exact (WC h).fac
 ·exact WI h
 ·obtain⟨h1,h2,h3⟩:=h
  exact .zero h3 λ_ _ hk=>⟨h1,h2,hk⟩
 ·exact IZ h
 ·exact UG h
 ·exact IX h
 ·exact UE h
 ·exact IY h
 ·exact UF h
 ·rename_i x i
  unfold bT at h
  split at h
  ·rename_i cs e
   obtain⟨p,h1,h2⟩:=h
   exact .zero h2 λ_ _ hk=>by show bT (ev x) i _ _;unfold bT;rw[e];exact⟨p,h1,hk⟩
  ·exact h.elim
 ·rename_i b args ts
  unfold eY at h
  split at h
  ·rename_i t0 x0 e1 e2
   have hf:=Y1 h
   have e':(λ(o:List Obj) (K:KT)=>eY D .len ts.toList args.toList ev o K)=qP D t0 (ev x0):=by
    funext o K;unfold eY;rw[e1,e2]
   show wL (λ(o:List Obj) (K:KT)=>eY D .len ts.toList args.toList ev o K) objs _
   rw[e'];exact hf
  ·rename_i t0 u0 s0 x0 e1 e2
   have hf:=QH h
   have e':(λ(o:List Obj) (K:KT)=>eY D .append ts.toList args.toList ev o K)=dO D t0 u0 (ev s0) (ev x0):=by
    funext o K;unfold eY;rw[e1,e2]
   show wL (λ(o:List Obj) (K:KT)=>eY D .append ts.toList args.toList ev o K) objs _
   rw[e'];exact hf
  ·obtain⟨r,g1,g2⟩:=Em h
   exact .zero g1 λo K' hk=>g2 (λr=>K' r o 0) hk
  ·obtain⟨r,g1,g2⟩:=Em h
   exact .zero g1 λo K' hk=>g2 (λr=>K' r o 0) hk
  ·exact h.elim
 ·exact WJ h
 ·exact NR h
 ·exact QI h
 ·exact zJ h
 ·exact zJ h
 ·exact UI h
 ·exact UJ h
 ·exact h.elim
theorem yA{own:Bool}{op:Op}{ev':Operand→PV}(he:∀x∈op.operands,ev x=ev' x)(h:II P D own ev objs op K):II P D own ev' objs op K:=by
 have hmap:∀(xs:Array Operand),(∀x∈xs,ev x=ev' x)→xs.toList.map ev=xs.toList.map ev':=
  λxs hx=>List.map_congr_left λx hm=>hx x (by simpa using hm)
 have aap:∀(ps:Array (Nat×Operand)),(∀x∈ps.toList,ev x.2=ev' x.2)→ps.toList.map (λx=>(x.1,ev x.2))=ps.toList.map (λx=>(x.1,ev' x.2)):=
  λps hx=>List.map_congr_left λx hm=>by rw[hx x hm]
 unfold II at h ⊢
 split at h<;> (try simp only[Op.operands,Call.operands]at he)
 case h_1 x=>rw[←he x (by simp)];exact h
 case h_2 x=>rw[←he x (by simp)];exact h
 case h_3 c x y=>rw[←he c (by simp),←he x (by simp),←he y (by simp)];exact h
 case h_4=>exact h
 case h_5 t x=>rw[←he x (by simp)];exact h
 case h_6 t ps=>rw[←aap ps (λx hx=>he x.2 (by simp;exact⟨x.1,by simpa using hx⟩))];exact h
 case h_7 t n ps=>rw[←aap ps (λx hx=>he x.2 (by simp;exact⟨x.1,by simpa using hx⟩))];exact h
 case h_8 t x=>rw[←he x (by simp)];exact h
 case h_9 t x y=>rw[←he x (by simp),←he y (by simp)];exact h
 case h_10 x=>rw[←he x (by simp)];exact h
 case h_11 b t x y u=>rw[←he x (by simp),←he y (by simp)];exact h
 case h_12 u t x=>rw[←he x (by simp)];exact h
 case h_13 s t x=>rw[←he x (by simp)];exact h
 case h_14 f first cap=>rw[←hmap first (λx hx=>he x (by simp[hx])),←hmap cap (λx hx=>he x (by simp[hx]))];exact h
 case h_15 t l c=>rw[←he l (by simp),←he c (by simp)];exact h
 case h_16 t x lo hi=>
  rw[←he x (by simp)]
  have e1:lo.map ev=lo.map ev':=by cases lo<;>simp;exact he _ (by simp)
  have e2:hi.map ev=hi.map ev':=by cases hi<;>simp;exact he _ (by simp)
  rw[←e1,←e2];exact h
 case h_17 t x f=>rw[←he x (by simp)];exact h
 case h_18 t x f=>rw[←he x (by simp)];exact h
 case h_19 t x i=>rw[←he x (by simp),←he i (by simp)];exact h
 case h_20 t x i=>rw[←he x (by simp),←he i (by simp)];exact h
 case h_21 x i=>rw[←he x (by simp)];exact h
 case h_22 b args ts=>
  have ha:∀x∈args,ev x=ev' x:=λx hx=>he x (by simpa using hx)
  unfold eY at h ⊢
  split at h
  ·rename_i t x e1 e2
   rw[←ha x (by have:x∈args.toList:=by rw[e2];simp
                simpa using this)]
   exact h
  ·rename_i t u s x e1 e2
   rw[←ha s (by have:s∈args.toList:=by rw[e2];simp
                simpa using this),←ha x (by have:x∈args.toList:=by rw[e2];simp
                                            simpa using this)]
   exact h
  ·rw[←hmap args ha];exact h
  ·rw[←hmap args ha];exact h
  ·exact h.elim
 case h_23 f args ts=>
  rw[←he f (by simp),←hmap args (λx hx=>he x (by simp[hx]))];exact h
 case h_24=>exact h
 case h_25 t x ix ok=>rw[←he x (by simp),←he ix (by simp)];exact h
 case h_26 t x k v=>rw[←he x (by simp),←he k (by simp),←he v (by simp)];exact h
 case h_27 t x k v=>rw[←he x (by simp),←he k (by simp),←he v (by simp)];exact h
 case h_28 t x=>rw[←he x (by simp)];exact h
 case h_29 x=>rw[←he x (by simp)];exact h
 case h_30=>exact h.elim
end Lp
namespace Lp
open Go
def jW(base ah:Nat→Prop)(V:Wz→Prop)(S:St)(blk:Nat→Option Nat)(a:Act)(w:World):Prop:=∃w0,V w0∧Rel base ah w0 S blk a w
abbrev Env:=(Nat→Prop)→(Nat→Prop)→(Wz→Prop)→Prop
def PW(P:Program)(l:Option Nat)(E:Env)(c:Code)(Q:Exit→St→Prop)(S:St):Prop:=
 ∀(base ah:Nat→Prop) (V:Wz→Prop),E base ah V→∀(blk:Nat→Option Nat) (a:Act) (w:World),jW base ah V S blk a w→
  c.wpIn (Bp l) 0 P (λe a' w'=>∃S' au,Q e S'∧jW base ah V S' au a' w') a w
def Weak(m:Nat)(S S':St):Prop:=∀(base ah:Nat→Prop) (w0:Wz) (blk:Nat→Option Nat) (a:Act) (w:World),w0.nx≤m→Rel base ah w0 S blk a w→∃au,Rel base ah w0 S' au a w
def thenS(next:St→Prop)(Q:Exit→St→Prop):Exit→St→Prop
 | .normal,S=>next S
 | e,S=>Q e S
def rU(id:Nat)(Q:Exit→St→Prop):Exit→St→Prop
 | .exit id',S=>if id'=id then Q .normal S else Q (.exit id') S
 | e,S=>Q e S
variable {P:Program}{D:TypeId→aC}{l:Option Nat}{E:Env}{Q:Exit→St→Prop}{S:St}
theorem PW.mono {c:Code}{Q':Exit→St→Prop}(h:PW P l E c Q S)(hq:∀e S,Q e S→Q' e S):PW P l E c Q' S:=
 λbase ah V hE blk a w R=>wpIn_mono (h base ah V hE blk a w R) λe _ _ ⟨S',au,h1,h2⟩=>⟨S',au,hq e S' h1,h2⟩
theorem PW.weak {c:Code}{S':St}{m:Nat}(hE:∀base ah V,E base ah V→∀w0,V w0→w0.nx≤m)(hw:Weak m S S')(h:PW P l E c Q S'):PW P l E c Q S:=
 λbase ah V hE' blk a w ⟨w0,hV,R⟩=>let ⟨au,R'⟩:=hw base ah w0 blk a w (hE base ah V hE' w0 hV) R;h base ah V hE' au a w ⟨w0,hV,R'⟩
theorem PW.skip (h:Q .normal S):PW P l E .skip Q S:=λ_ _ _ _ blk _ _ R=>wpIn_skip ⟨S,blk,h,R⟩
theorem PW.exit {id:Nat}(h:Q (.exit id) S):PW P l E (.exit id) Q S:=λ_ _ _ _ blk _ _ R=>wpIn_exit ⟨S,blk,h,R⟩
theorem PW.ret (h:Q .ret S):PW P l E .ret Q S:=λ_ _ _ _ blk _ _ R=>wpIn_ret ⟨S,blk,h,R⟩
theorem PW.seq {x y:Code}(h:PW P l E x (thenS (λS'=>PW P l E y Q S') Q) S):PW P l E (.seq x y) Q S:=by
 intro base ah V hE blk a w R
 refine wpIn_seq (wpIn_mono (h base ah V hE blk a w R) ?_)
 rintro e a' w' ⟨S',au,h1,h2⟩
 cases e with
 | normal=>exact h1 base ah V hE au a' w' h2
 | _=>exact⟨S',au,h1,h2⟩
theorem PW.block {id:Nat}{c:Code}(h:PW P l E c (rU id Q) S):PW P l E (.block id c) Q S:=by
 intro base ah V hE blk a w R
 refine wpIn_block (wpIn_mono (h base ah V hE blk a w R) ?_)
 rintro e a' w' ⟨S',au,h1,h2⟩
 cases e with
 | exit id'=>
  simp only[Exit.inBlock,rU]at h1 ⊢
  split
  ·rename_i e;rw[if_pos e]at h1;exact⟨S',au,h1,h2⟩
  ·rename_i e;rw[if_neg e]at h1;exact⟨S',au,h1,h2⟩
 | _=>exact⟨S',au,h1,h2⟩
def zK(v:PV)(X Y:Prop):Prop:=
 match v with
 | .bool b=>(b=true→X)∧(b=false→Y)
 | _=>False
theorem PW.cond {c:Operand}{x y:Code}(h:zK (S.ev c) (PW P l E x Q S) (PW P l E y Q S)):PW P l E (.cond c x y) Q S:=by
 intro base ah V hE blk a w R
 have hc:=R.choose_spec.2.ev c
 unfold zK at h
 split at h
 ·rename_i b e
  rw[e]at hc
  exact wpIn_cond_split hc.bool (λhb=>h.1 hb base ah V hE blk a w R) (λhb=>h.2 hb base ah V hE blk a w R)
 ·exact h.elim
def oP(ops:List Oper)(g:Option (Nat×Bool))(S:St)(X Y:St→Prop):Prop:=
 match g with
 | none=>X S
 | some (j,want)=>
  match (ops[j]?).bind (·.dst) with
  | none=>False
  | some d=>
   match S.tmps.getD d .dead with
   | .bool b=>(b=want→X { S with tmps:=S.tmps.set d (.bool want) })∧(b=!want→Y { S with tmps:=S.tmps.set d (.bool !want) })
   | .bI []=>Y S
   | _=>False
def pq(P:Program)(D:TypeId→aC)(own:Nat→Bool)(ops:List Oper):List Oper→Nat→St→List Nat→(St→List Nat→Prop)→Prop
 | [],_,S,ts,K=>K S ts
 | o::rest,i,S,ts,K=>
  oP ops o.guard S
   (λS=>II P D (own i) S.ev S.objs o.op λr ai t=>pq P D own ops rest (i+1) (St.put ⟨S.tmps,ai⟩ o.dst r) (ts++[t]) K)
   (λS=>pq P D own ops rest (i+1) (S.put o.dst (.bI [])) (ts++[0]) K)
theorem yB(w:World)(ok:Nat→Prop)(objs:List Obj)(blk:Nat→Option Nat):aR w ok objs blk (.bI []) undef:=⟨[],rfl,rfl,λ_ _ _ h=>by simp at h⟩
theorem UK{base ah:Nat→Prop}{w0:Wz}{blk:Nat→Option Nat}{a:Act}{w:World}(R:Rel base ah w0 S blk a w)(d:Nat) :
  aR w (bA base S.objs blk) S.objs blk (S.tmps.getD d .dead) (a.tmps.getD d undef):=R.ev (.tmp d)
theorem Bv{xs:List PV}{d:Nat}{p:PV}(h:xs.getD d .dead=p)(hp:p≠.dead):xs.set d p=xs:=by
 by_cases hd:d<xs.length
 ·rw[List.getD_eq_getElem?_getD,List.getElem?_eq_getElem hd,Option.getD_some]at h
  subst h
  exact List.set_getElem_self hd
 ·rw[List.getD_eq_getElem?_getD,List.getElem?_eq_none (Nat.le_of_not_lt hd),Option.getD_none]at h
  exact absurd h.symm hp
theorem wN{ops:List Oper}{g:Option (Nat×Bool)}{X Y:St→Prop}{base ah:Nat→Prop}{w0:Wz}{blk:Nat→Option Nat}{a:Act}{w:World}
  (R:Rel base ah w0 S blk a w) (h:oP ops g S X Y) (o:Oper) (ho:o.guard=g) :
  (Region.wanted o (yielded ops.toArray a.tmps)=true∧X S)∨(Region.wanted o (yielded ops.toArray a.tmps)=false∧Y S):=by
 unfold oP at h
 split at h
 ·exact .inl ⟨by simp[Region.wanted,ho],h⟩
 ·rename_i j want
  split at h
  ·exact h.elim
  ·rename_i d hd
   have hy:yielded ops.toArray a.tmps j=(match a.tmps[d]? with | some (.bool b)=>some b | _=>none):=by
    have hd':(ops.toArray[j]?).bind (·.dst)=some d:=by simpa using hd
    unfold yielded
    rw[hd']
    rfl
   have hr:=UK R d
   split at h
   ·rename_i b hb
    rw[hb]at hr
    have hv:=hr.bool
    have hlt:d<a.tmps.size:=by
     rcases Nat.lt_or_ge d a.tmps.size with hh | hh
     ·exact hh
     ·rw[Array.getD_eq_getD_getElem?,Array.getElem?_eq_none hh]at hv
      simp[undef]at hv
    have hg:a.tmps[d]?=some (.bool b):=by
     rw[Array.getD_eq_getD_getElem?,Array.getElem?_eq_getElem hlt,Option.getD_some]at hv
     rw[Array.getElem?_eq_getElem hlt,hv]
    rw[hg]at hy
    simp only[]at hy
    by_cases hbw:b=want
    ·left
     have:=h.1 hbw
     rw[Bv (by rw[hb,hbw]) (by simp)]at this
     exact⟨by simp[Region.wanted,ho,hy,hbw],this⟩
    ·right
     have hbn:b=!want:=by cases b<;>cases want<;>simp_all
     have:=h.2 hbn
     rw[Bv (by rw[hb,hbn]) (by simp)]at this
     exact⟨by simp[Region.wanted,ho,hy,hbn],this⟩
   ·rename_i hb
    rw[hb]at hr
    right
    obtain⟨vs,hv,hl⟩:=hr
    have hvs:vs=[]:=List.eq_nil_of_length_eq_zero hl.1.symm
    subst hvs
    have hn:(match a.tmps[d]? with | some (.bool b)=>some b | _=>none)=none:=by
     rw[Array.getD_eq_getD_getElem?]at hv
     cases hx:a.tmps[d]? with
     | none=>rfl
     | some v=>rw[hx,Option.getD_some]at hv;subst hv;rfl
    rw[hn]at hy
    exact⟨by simp[Region.wanted,ho,hy],h⟩
   ·exact h.elim
theorem wO{own:Nat→Bool}{ops:List Oper}{Qm:Exit→Act→World→Prop}(hD:∀t,fI P t (D t))(base ah:Nat→Prop)(w0:Wz) :
  ∀(qO:List Oper) (k:Nat) (S:St) (ts:List Nat) (K:St→List Nat→Prop) (blk:Nat→Option Nat) (a:Act) (w:World),(∀j,qO[j]?=ops[k+j]?)→pq P D own ops qO k S ts K→Rel base ah w0 S blk a w→
   (∀S' ts' au a' w',K S' ts'→Rel base ah w0 S' au a' w'→Qm .normal a' w')→wpOpsIn (Bp l) 0 P ops.toArray Qm (List.range' k qO.length) a w
 | [],k,S,ts,K,blk,a,w,_,h,R,hq=>hq S ts blk a w h R
 | o::qO,k,S,ts,K,blk,a,w,hl,h,R,hq=>by
  have h0:ops.toArray[k]?=some o:=by simpa using (hl 0).symm
  have hl':∀j,qO[j]?=ops[k+1+j]?:=λj=>by have:=hl (j+1);simpa[Nat.add_assoc,Nat.add_comm 1 j] using this
  simp only[List.length_cons,List.range'_succ,wpOpsIn,h0]
  unfold pq at h
  rcases wN R h o rfl with ⟨hw,hx⟩ | ⟨hw,hy⟩
  ·rw[if_pos hw]
   exact Bu l hD R hx λr ai t v w' au hK R' hr=>wO hD base ah w0 qO (k+1) _ _ K au _ w' hl' hK (R'.put hr o.dst) hq
  ·rw[if_neg (by rw[hw];simp)]
   exact⟨λ_ _=>trivial,wO hD base ah w0 qO (k+1) _ _ K blk _ w hl' hy (R.put (yB _ _ _ _) o.dst) hq⟩
theorem PW.region {id:Nat}{ops:List Oper}(own:Nat→Bool)(hD:∀t,fI P t (D t))(h:pq P D own ops ops 0 S [] λS' _=>Q .normal S'):PW P l E (.region id ops.toArray false) Q S:=by
 intro base ah V hE blk a w ⟨w0,hV,R⟩
 refine wpIn_region ?_
 have:=wO (l:=l) (Qm:=λe a' w'=>∃S' au,Q e S'∧jW base ah V S' au a' w') hD base ah w0 ops 0 S [] _ blk a w (λj=>by simp) h R (λS' ts' au a' w' hK R'=>⟨S',au,hK,w0,hV,R'⟩)
 rw[List.range_eq_range']
 simpa using this
end Lp
