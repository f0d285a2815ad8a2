/-
  Part 2 of what the statement rests on: LpL, LpM. No condition.
-/
import Derived.Test.YthmobaehdbiljaaGreatDoorLp1
import Derived.OrdersIn

set_option linter.all false
set_option maxHeartbeats 8000000
set_option maxRecDepth 100000
namespace Lp
open Go
def co(t:Nat):Nat:=if t≤2 then t else if t % 2=0 then 1 else 2
theorem aaD(k:Nat):co (4+2*k)=1:=by unfold co;rw[if_neg (by omega),if_pos (by omega)]
theorem Ti(k:Nat):co (5+2*k)=2:=by unfold co;rw[if_neg (by omega),if_neg (by omega)]
theorem Tj{t:Nat}(h:t≠0):co t≠0:=by unfold co;split<;> (try split)<;>omega
def Mk(mk:Nat→PV):Prop:=mk=(λn=>.aS n 1)∨mk=(λn=>.bf n 1 0 0)∨mk=(λn=>.fM n 1)
structure Zc (A:List Obj→KT→Prop) (objs:List Obj) (r:PV) (o:List Obj) (t:Nat):Prop where
 rd:∀k,t=4+2*k→o=objs∧k<objs.length∧∀(bO:List Obj) (K':KT),bO[k]?=objs[k]?→K' r bO t→A bO K'
 wr:∀k,t=5+2*k→(∃o1,k<objs.length∧o=objs.set k o1∧∀(bO:List Obj) (K':KT),bO[k]?=objs[k]?→K' r (bO.set k o1) t→A bO K')∨
  (k=objs.length∧∃o1 mk,Mk mk∧r=mk k∧o=objs++[o1]∧o1.live=true∧o1.ver=1∧∀(bO:List Obj) (K':KT),K' (mk bO.length) (bO++[o1]) (5+2*bO.length)→A bO K')
def wh(A:List Obj→KT→Prop)(objs:List Obj)(K:KT):Prop:=
 ∃r o t,K r o t∧(co t≠2→o=objs)∧(∀K':KT,K' r o t→A objs K')∧(t=0→∀(bO:List Obj) (K':KT),K' r bO 0→A bO K')∧Zc A objs r o t
theorem Zc.few {A:List Obj→KT→Prop}{objs:List Obj}{r:PV}{o:List Obj}{t:Nat}(h:t≤2):Zc A objs r o t:=⟨λk e=>by omega,λk e=>by omega⟩
variable {P:Program}{D:TypeId→aD}{ev:Operand→PV}{objs:List Obj}{K:KT}
theorem wh.zero {A:List Obj→KT→Prop}{r:PV}(hK:K r objs 0)(h:∀(o:List Obj) (K':KT),K' r o 0→A o K'):wh A objs K:=⟨r,objs,0,hK,λ_=>rfl,h _,λ_ o=>h o,.few (by decide)⟩
theorem wh.rd {A:List Obj→KT→Prop}{r:PV}(k:Nat){o:Obj}(hk:objs[k]?=some o)(hK:K r objs (4+2*k))(h:∀(bO:List Obj) (K':KT),bO[k]?=objs[k]?→K' r bO (4+2*k)→A bO K'):wh A objs K:=
 ⟨r,objs,_,hK,λ_=>rfl,λK' hk=>h objs K' rfl hk,λe=>by omega,λk' e=>by
  have:k'=k:=by omega
  subst this;exact⟨rfl,(List.getElem?_eq_some_iff.1 hk).1,λbO K' he hk=>h bO K' he hk⟩,λk' e=>by omega⟩
theorem wh.wr {A:List Obj→KT→Prop}{r:PV}(k:Nat){o:Obj}(o1:Obj)(hk:objs[k]?=some o)(hK:K r (objs.set k o1) (5+2*k))
  (h:∀(bO:List Obj) (K':KT),bO[k]?=objs[k]?→K' r (bO.set k o1) (5+2*k)→A bO K'):wh A objs K:=
 ⟨r,_,_,hK,λe=>absurd (Ti k) e,λK' hk=>h objs K' rfl hk,λe=>by omega,λk' e=>by omega,λk' e=>by
  have:k'=k:=by omega
  subst this;exact .inl ⟨o1,(List.getElem?_eq_some_iff.1 hk).1,rfl,λbO K' he hk=>h bO K' he hk⟩⟩
theorem wh.new {A:List Obj→KT→Prop}(mk:Nat→PV)(hm:Mk mk)(o1:Obj)(hl:o1.live=true)(hv:o1.ver=1)(hK:K (mk objs.length) (objs++[o1]) (5+2*objs.length))
  (h:∀(bO:List Obj) (K':KT),K' (mk bO.length) (bO++[o1]) (5+2*bO.length)→A bO K'):wh A objs K:=
 ⟨_,_,_,hK,λe=>absurd (Ti _) e,λK' hk=>h objs K' hk,λe=>by omega,λk' e=>by omega,λk' e=>by
  have:k'=objs.length:=by omega
  subst this;exact .inr ⟨rfl,o1,mk,hm,rfl,rfl,hl,hv,h⟩⟩
theorem wh.two {A:List Obj→KT→Prop}{r:PV}{o:List Obj}(hK:K r o 2)(h:∀K':KT,K' r o 2→A objs K'):wh A objs K:=⟨r,o,2,hK,λe=>absurd (by decide) e,h,λe=>absurd e (by decide),.few (by decide)⟩
def NK(A:(PV→Prop)→Prop)(K:PV→Prop):Prop:=∃r,K r∧∀K':PV→Prop,K' r→A K'
theorem NK.fac {A:(PV→Prop)→Prop}(h:NK A (λr=>K r objs 0)):wh (λo K=>A (λr=>K r o 0)) objs K:=by
 obtain⟨r,h1,h2⟩:=h
 exact .zero h1 λo K' hk=>h2 _ hk
theorem UH{op:BinOp}{k k':IntKind}{x y:Int}{K:PV→Prop}(h:rH op k k' x y K):NK (rH op k k' x y) K:=by
 cases op<;>simp only[rH]at h<;> (first
  | (obtain⟨h1,h2,h3,h4⟩:=h;exact⟨_,h4,λ_ hk=>⟨h1,h2,h3,hk⟩⟩)
  | (obtain⟨h1,h2,h3⟩:=h;exact⟨_,h3,λ_ hk=>⟨h1,h2,hk⟩⟩)
  | (obtain⟨h1,h2⟩:=h;exact⟨_,h2,λ_ hk=>⟨h1,hk⟩⟩))
theorem UI{op:BinOp}{x y:List UInt8}{K:PV→Prop}(h:iQ op x y K):NK (iQ op x y) K:=by
 cases op<;>simp only[iQ]at h<;> (first
  | exact h.elim
  | (obtain⟨h1,h2⟩:=h;exact⟨_,h2,λ_ hk=>⟨h1,hk⟩⟩)
  | exact⟨_,h,λ_ hk=>hk⟩)
theorem UJ{ti:aD}{t:TypeId}{op:BinOp}{x y:PV}{K:PV→Prop}(h:oP P ti t op x y K):NK (oP P ti t op x y) K:=by
 unfold oP at h
 split at h
 ·exact UH h
 ·exact UI h
 ·obtain⟨h1,h⟩:=h
  cases op<;>simp only[]at h<;>first | exact h.elim | exact⟨_,h,λ_ hk=>⟨h1,hk⟩⟩
 ·obtain⟨h1,r,h2,h⟩:=h
  cases op<;>simp only[]at h<;>first | exact h.elim | exact⟨_,h,λ_ hk=>⟨h1,r,h2,hk⟩⟩
 ·obtain⟨h1,h⟩:=h
  cases op<;>simp only[]at h<;>first | exact h.elim | exact⟨_,h,λ_ hk=>⟨h1,hk⟩⟩
 ·exact h.elim
theorem WO{op:UnOp}{x:PV}{K:PV→Prop}(h:Nh op x K):NK (Nh op x) K:=by
 unfold Nh at h
 split at h
 ·exact⟨_,h,λ_ hk=>hk⟩
 ·exact⟨_,h.2,λ_ hk=>⟨h.1,hk⟩⟩
 ·exact h.elim
theorem QM{s d:aD}{x:PV}{K:PV→Prop}(h:qf s d x K):NK (qf s d x) K:=by
 unfold qf at h
 split at h
 ·rename_i e;exact⟨_,h.2,λ_ hk=>by unfold qf;rw[e];exact⟨h.1,hk⟩⟩
 ·rename_i e;exact⟨_,h.2,λ_ hk=>by unfold qf;rw[e];exact⟨h.1,hk⟩⟩
 ·rename_i e;exact⟨_,h.2,λ_ hk=>by unfold qf;rw[e];exact⟨h.1,hk⟩⟩
 ·exact h.elim
theorem D8{m:Bool}{xs:List PV}{K:PV→Prop}(h:gK m xs K):NK (gK m xs) K:=by
 unfold gK at h
 split at h
 ·exact⟨_,h.2,λ_ hk=>⟨h.1,hk⟩⟩
 ·exact h.elim
theorem WQ{c x y:PV}(h:vN c x y objs K):wh (vN c x y) objs K:=by
 unfold vN at h
 split at h
 ·exact .zero h λ_ _ hk=>hk
 ·exact h.elim
theorem WR{ti:aD}{p:PV}(h:eD ti p objs K):wh (eD ti p) objs K:=by
 unfold eD at h
 split at h
 ·obtain⟨h1,h2,h3,h4⟩:=h
  exact .zero h4 λ_ _ hk=>⟨h1,h2,h3,hk⟩
 ·obtain⟨o,e,h1,h2,h3,h4,h5,h6,h7,h8,h9⟩:=h
  exact .rd _ h1 h9 λ_ _ he hk=>⟨o,e,he.trans h1,h2,h3,h4,h5,h6,h7,h8,hk⟩
 ·exact h.elim
theorem UK{ti:aD}{p v:PV}(h:jo ti p v objs K):wh (jo ti p v) objs K:=by
 unfold jo at h
 split at h
 ·obtain⟨o,e,h1,h2,h3,h4,h5,h6,h7,h8,h9,h10⟩:=h
  exact .wr _ _ h1 h10 λ_ _ he hk=>⟨o,e,he.trans h1,h2,h3,h4,h5,h6,h7,h8,h9,hk⟩
 ·exact h.elim
theorem wm{t:TypeId}{f:Nat}{X:Nat→aD→Prop}(h:dU D t f X):∃off ti,X off ti∧∀X':Nat→aD→Prop,X' off ti→dU D t f X':=by
 unfold dU at h
 split at h
 ·rename_i fs hk
  obtain⟨x,h1,h2,h3,h4⟩:=h
  exact⟨_,_,h4,λX' hx=>by unfold dU;rw[hk];exact⟨x,h1,h2,h3,hx⟩⟩
 ·exact h.elim
theorem IA{t:TypeId}{p:PV}{f:Nat}(h:aU D t p f objs K):wh (aU D t p f) objs K:=by
 unfold aU at h
 split at h
 ·obtain⟨off,ti,⟨h1,h2,h3,h4⟩,g⟩:=wm h
  exact .zero h4 λ_ _ hk=>by unfold aU;exact g _ ⟨h1,h2,h3,hk⟩
 ·obtain⟨o,h1,h2,h3,h⟩:=h
  obtain⟨off,ti,h4,g⟩:=wm h
  exact .rd _ h1 h4 λ_ _ he hk=>⟨o,he.trans h1,h2,h3,g _ hk⟩
 ·exact h.elim
theorem UL{t:TypeId}{p:PV}{f:Nat}(h:oQ D t p f objs K):wh (oQ D t p f) objs K:=by
 unfold oQ at h
 split at h
 ·obtain⟨off,ti,⟨h1,h2⟩,g⟩:=wm h
  exact .zero h2 λ_ _ hk=>by unfold oQ;exact g _ ⟨h1,hk⟩
 ·exact h.elim
theorem IB{t:TypeId}{x i:PV}(h:bH D t x i objs K):wh (bH D t x i) objs K:=by
 unfold bH at h
 split at h<;> (try rename_i hk)
 ·rename_i e _ _ _ _ _ hk
  obtain⟨h1,h2,y,h3,h4,h5⟩:=h
  exact .zero h5 λ_ _ hk'=>by unfold bH;rw[hk];exact⟨h1,h2,y,h3,h4,hk'⟩
 ·rename_i e _ _ _ _ hk
  obtain⟨h1,h2,o,h3,h4,h5,h6,h7,h8⟩:=h
  exact .rd _ h3 h8 λ_ _ he hk'=>by unfold bH;rw[hk];exact⟨h1,h2,o,he.trans h3,h4,h5,h6,h7,hk'⟩
 ·rename_i m e _ _ _ hk
  obtain⟨h1,h2,h3,h4,h5,h6,h7⟩:=h
  exact .zero h7 λ_ _ hk'=>by unfold bH;rw[hk];exact⟨h1,h2,h3,h4,h5,h6,hk'⟩
 ·rename_i m e _ _ _ _ _ _ hk
  obtain⟨h1,h2,h3,o,h4,h5,h6,h7⟩:=h
  exact .rd _ h4 h7 λ_ _ he hk'=>by unfold bH;rw[hk];exact⟨h1,h2,h3,o,he.trans h4,h5,h6,hk'⟩
 ·exact h.elim
theorem UM{t:TypeId}{x i:PV}(h:lg D t x i objs K):wh (lg D t x i) objs K:=by
 unfold lg at h
 split at h<;> (try rename_i hk)
 ·obtain⟨h1,b,h2,h3⟩:=h
  exact .zero h3 λ_ _ hk'=>by unfold lg;rw[hk];exact⟨h1,b,h2,hk'⟩
 ·obtain⟨h1,h2,h3,h4,h5,h6⟩:=h
  exact .zero h6 λ_ _ hk'=>by unfold lg;rw[hk];exact⟨h1,h2,h3,h4,h5,hk'⟩
 ·exact h.elim
theorem lm{x:Option PV}{d:Int}{X:Int→Prop}(h:cK x d X):∃n,X n∧∀X':Int→Prop,X' n→cK x d X':=by
 unfold cK at h
 split at h
 ·exact⟨_,h,λ_ hx=>hx⟩
 ·exact⟨_,h,λ_ hx=>hx⟩
 ·exact h.elim
theorem UN{t:TypeId}{x:PV}{lo hi:Option PV}(h:iB D t x lo hi objs K):wh (iB D t x lo hi) objs K:=by
 unfold iB at h
 split at h<;> (try rename_i hk)
 ·obtain⟨l,h,g1⟩:=lm h
  obtain⟨m,⟨h1,h2,h3,h4⟩,g2⟩:=lm h
  exact .zero h4 λ_ _ hk'=>by unfold iB;rw[hk];exact g1 _ (g2 _ ⟨h1,h2,h3,hk'⟩)
 ·obtain⟨e1,e2,h⟩:=h
  obtain⟨l,h,g1⟩:=lm h
  obtain⟨m,⟨h1,h2,h3,h4⟩,g2⟩:=lm h
  exact .zero h4 λ_ _ hk'=>by unfold iB;rw[hk];exact⟨e1,e2,g1 _ (g2 _ ⟨h1,h2,h3,hk'⟩)⟩
 ·obtain⟨e1,o,e2,e3,e4,e5,e6,h⟩:=h
  obtain⟨m,⟨h1,h2,h3⟩,g2⟩:=lm h
  exact .wr _ _ e2 h3 λ_ _ he hk'=>by unfold iB;rw[hk];exact⟨e1,o,he.trans e2,e3,e4,e5,e6,g2 _ ⟨h1,h2,hk'⟩⟩
 ·obtain⟨e1,e2,e3,e4,e5,e6,h⟩:=h
  obtain⟨l,h,g1⟩:=lm h
  obtain⟨m,⟨h1,h2,h3,h4⟩,g2⟩:=lm h
  exact .zero h4 λ_ _ hk'=>by unfold iB;rw[hk];exact⟨e1,e2,e3,e4,e5,e6,g1 _ (g2 _ ⟨h1,h2,h3,hk'⟩)⟩
 ·exact h.elim
theorem Zd{t:TypeId}{x:PV}(h:qL D t x objs K):wh (qL D t x) objs K:=by
 unfold qL at h
 split at h<;> (try rename_i hk)
 ·exact .zero h λ_ _ hk'=>by unfold qL;rw[hk];exact hk'
 ·exact .zero h λ_ _ hk'=>by unfold qL;rw[hk];exact hk'
 ·obtain⟨o,e2,e3,e4,h⟩:=h
  exact .rd _ e2 h λ_ _ he hk'=>by unfold qL;rw[hk];exact⟨o,he.trans e2,e3,e4,hk'⟩
 ·exact h.elim
theorem CV{place:Nat→Option (Nat×Nat)}:∀{parts:List (Nat×PV)}{cs:List PV}{X:List PV→Prop},oD place cs parts X→∃cs',X cs'∧∀X':List PV→Prop,X' cs'→oD place cs parts X'
 | [],cs,_,h=>⟨cs,h,λ_ hx=>hx⟩
 | (_,_)::_,_,_,⟨x,h1,h2,h3,h⟩=>
  let ⟨cs',g1,g2⟩:=CV h
  ⟨cs',g1,λ_ hx=>⟨x,h1,h2,h3,g2 _ hx⟩⟩
theorem UO{t:TypeId}{ps:List (Nat×PV)}(h:dh D t ps objs K):wh (dh D t ps) objs K:=by
 obtain⟨a1,a2,a3,h⟩:=h
 unfold nN at h
 split at h<;> (try rename_i hk)
 ·obtain⟨h1,h⟩:=h
  obtain⟨cs,h2,g⟩:=CV h
  exact .zero h2 λ_ _ hk'=>⟨a1,a2,a3,by unfold nN;rw[hk];exact⟨h1,g _ hk'⟩⟩
 ·obtain⟨h1,h⟩:=h
  obtain⟨cs,h2,g⟩:=CV h
  exact .zero h2 λ_ _ hk'=>⟨a1,a2,a3,by unfold nN;rw[hk];exact⟨h1,g _ hk'⟩⟩
 ·exact h.elim
theorem F4{own:Bool}{t:TypeId}{n:Nat}{ps:List (Nat×PV)}(h:bL D own t n ps objs K):wh (bL D own t n ps) objs K:=by
 unfold bL at h
 split at h<;> (try rename_i hk)
 ·obtain⟨h1,h2,h3,h4,h5,h6,h7⟩:=h
  cases own with
  | true=>
   simp only[if_true]at h7
   exact .new (λn=>.aS n 1) (.inl rfl) _ rfl rfl h7 λ_ _ hk'=>by unfold bL;rw[hk];exact⟨h1,h2,h3,h4,h5,h6,hk'⟩
  | false=>
   simp only[Bool.false_eq_true,if_false]at h7
   exact .zero h7 λ_ _ hk'=>by unfold bL;rw[hk];exact⟨h1,h2,h3,h4,h5,h6,hk'⟩
 ·exact h.elim
theorem IC{t:TypeId}{l c:PV}(h:d_ D t l c objs K):wh (d_ D t l c) objs K:=by
 unfold d_ at h
 split at h<;> (try rename_i hk)
 ·obtain⟨h1,h2,h3,h4,h5,h6,h7,h8,h9⟩:=h
  exact .new (λn=>.aS n 1) (.inl rfl) _ rfl rfl h9 λ_ _ hk'=>by unfold d_;rw[hk];exact⟨h1,h2,h3,h4,h5,h6,h7,h8,hk'⟩
 ·exact h.elim
theorem WS{t:TypeId}{x:PV}{X:List PV→Bool→Prop}(h:ng D t x objs X):∃ys q,X ys q∧(∀X':List PV→Bool→Prop,X' ys q→ng D t x objs X')∧
  (q=false→∀(bO:List Obj) (X':List PV→Bool→Prop),X' ys q→ng D t x bO X'):=by
 unfold ng at h
 split at h<;> (try rename_i hk)
 ·exact⟨_,_,h,λ_ hx=>by unfold ng;rw[hk];exact hx,λ_ _ _ hx=>by unfold ng;rw[hk];exact hx⟩
 ·obtain⟨o,h1,h2,h3,h⟩:=h
  exact⟨_,_,h,λ_ hx=>by unfold ng;rw[hk];exact⟨o,h1,h2,h3,hx⟩,λe=>by cases e⟩
 ·exact⟨_,_,h,λ_ hx=>by unfold ng;rw[hk];exact hx,λ_ _ _ hx=>by unfold ng;rw[hk];exact hx⟩
 ·exact h.elim
theorem QN{t u:TypeId}{s x:PV}(h:dK D t u s x objs K):wh (dK D t u s x) objs K:=by
 unfold dK at h
 split at h<;> (try rename_i hk)
 ·obtain⟨h1,h2,h3,h4,h⟩:=h
  obtain⟨ys,q,⟨hy,h⟩,g,g2⟩:=WS h
  split at h
  ·rename_i k ver
   obtain⟨o,e1,e2,e3,e4,e5,e6,e7,e8,e9⟩:=h
   cases q with
   | true=>exact .two e9 λ_ hk'=>by unfold dK;rw[hk];exact⟨h1,h2,h3,h4,g _ ⟨hy,o,e1,e2,e3,e4,e5,e6,e7,e8,hk'⟩⟩
   | false=>exact .wr _ _ e1 e9 λ_ _ he hk'=>by unfold dK;rw[hk];exact⟨h1,h2,h3,h4,g2 rfl _ _ ⟨hy,o,he.trans e1,e2,e3,e4,e5,e6,e7,e8,hk'⟩⟩
  ·obtain⟨e1,e2,e3,e4,e5,e6⟩:=h
   cases q with
   | true=>exact .two e6 λ_ hk'=>by unfold dK;rw[hk];exact⟨h1,h2,h3,h4,g _ ⟨hy,e1,e2,e3,e4,e5,hk'⟩⟩
   | false=>exact .new (λn=>.aS n 1) (.inl rfl) _ rfl rfl e6 λ_ _ hk'=>by unfold dK;rw[hk];exact⟨h1,h2,h3,h4,g2 rfl _ _ ⟨hy,e1,e2,e3,e4,e5,hk'⟩⟩
  ·obtain⟨e1,e2,e3⟩:=h
   cases q with
   | true=>exact .two e3 λ_ hk'=>by unfold dK;rw[hk];exact⟨h1,h2,h3,h4,g _ ⟨hy,e1,e2,hk'⟩⟩
   | false=>exact .new (λn=>.aS n 1) (.inl rfl) _ rfl rfl e3 λ_ _ hk'=>by unfold dK;rw[hk];exact⟨h1,h2,h3,h4,g2 rfl _ _ ⟨hy,e1,e2,hk'⟩⟩
  ·exact h.elim
 ·exact h.elim
theorem La{x:PV}(h:dx x objs K):wh (dx x) objs K:=by
 unfold dx at h
 split at h
 ·exact .zero h λ_ _ hk=>hk
 ·obtain⟨o,h1,h2,h3,h⟩:=h
  exact .rd _ h1 h λ_ _ he hk=>⟨o,he.trans h1,h2,h3,hk⟩
 ·exact h.elim
theorem WT{s t:TypeId}{x:PV}(h:qR D s t x objs K):wh (qR D s t x) objs K:=by
 by_cases hx:∃k ver,x=.aS k ver
 ·obtain⟨k,ver,rfl⟩:=hx
  obtain⟨ob,bs,h1,h2,h3,h4,h5,h6,h7,h8,h9⟩:=h
  exact .rd k h1 h9 λbO K' he hk=>⟨ob,bs,by rw[he];exact h1,h2,h3,h4,h5,h6,h7,h8,hk⟩
 ·have e:∀(objs:List Obj) (K:KT),qR D s t x objs K=qf (D s) (D t) x λr=>K r objs 0:=λobjs K=>FR λk ver e=>hx ⟨k,ver,e⟩
  rw[e]at h
  have e2:qR D s t x=λ(o:List Obj) (K:KT)=>qf (D s) (D t) x λr=>K r o 0:=by funext o K;exact e o K
  rw[e2]
  exact (QM h).fac
theorem ED{f:FuncId}{args:List PV}{r:PV}{o:List Obj}(h:mI P f args objs r o 0)(bO:List Obj):o=objs∧mI P f args bO r bO 0:=by
 cases h with
 | pure _ ha h=>exact⟨rfl,.pure _ ha h⟩
theorem NM{f:FuncId}{args:List PV}{r:PV}{o:List Obj}{t:Nat}(h:mI P f args objs r o t)(ht:co t≠2):o=objs:=by
 cases h with
 | pure _ ha h=>rfl
 | made _ _ _ _ _=>exact absurd (by decide) ht
 | used _ _ _=>exact absurd (by decide) ht
 | FX _ _ _ _ _ _=>exact absurd (by decide) ht
 | Ns _ _ _ _ _ _ _ _=>exact absurd (by decide) ht
 | WK _ _ _ _ _=>rfl
theorem WU{f:PV}{args:List PV}(h:FY P f args objs K):wh (FY P f args) objs K:=by
 unfold FY at h
 split at h
 ·obtain⟨r,o,t,hc,hK⟩:=h
  refine⟨r,o,t,hK,NM hc,λ_ hk=>⟨r,o,t,hc,hk⟩,?_,.few (by cases hc<;>decide)⟩
  intro ht bO K' hk
  subst ht
  exact⟨r,bO,0,(ED hc bO).2,hk⟩
 ·exact h.elim
theorem NN{t:TypeId}(h:mH D t objs K):wh (mH D t) objs K:=by
 unfold mH at h
 split at h
 ·rename_i k e hk
  exact .new (λn=>.fM n 1) (.inr (.inr rfl)) _ rfl rfl h λ_ _ hk'=>by unfold mH;rw[hk];exact hk'
 ·exact h.elim
theorem QO{t:TypeId}{x ix:PV}{ok:Bool}(h:jy D t x ix ok objs K):wh (jy D t x ix ok) objs K:=by
 unfold jy at h
 split at h
 ·rename_i kt et k ver hk
  obtain⟨h1,h2,o,h3,h4,h5,h6,m,h7,h8⟩:=h
  exact .rd _ h3 h8 λ_ _ he hk'=>by unfold jy;rw[hk];exact⟨h1,h2,o,he.trans h3,h4,h5,h6,m,h7,hk'⟩
 ·exact h.elim
theorem zA{t:TypeId}{x y z:PV}(h:fe D t x y z objs K):wh (fe D t x y z) objs K:=by
 unfold fe at h
 split at h
 ·rename_i kt et k ver hk
  obtain⟨h1,h2,h2',o,h3,h4,h5,h6,m,h7,h8⟩:=h
  exact .wr _ _ h3 h8 λ_ _ he hk'=>by unfold fe;rw[hk];exact⟨h1,h2,h2',o,he.trans h3,h4,h5,h6,m,h7,hk'⟩
 ·exact h.elim
theorem UQ{t:TypeId}{x:PV}(h:uh D t x objs K):wh (uh D t x) objs K:=by
 unfold uh at h
 split at h
 ·rename_i kt et k ver hk
  obtain⟨o,h1,h2,h3,h4,h5⟩:=h
  exact .two h5 λK' hk'=>by unfold uh;rw[hk];exact⟨o,h1,h2,h3,h4,hk'⟩
 ·exact h.elim
theorem UR{x:PV}(h:uj x objs K):wh (uj x) objs K:=by
 unfold uj at h
 split at h
 ·rename_i j ver
  obtain⟨k,kv,n,seen,i,mo,key,v,h1,h2,h3,h4,h5,h6,h7,h8⟩:=h
  exact⟨_,objs,1,h8,λ_=>rfl,λK' hk'=>⟨k,kv,n,seen,i,mo,key,v,h1,h2,h3,h4,h5,h6,h7,hk'⟩,λe=>absurd e (by decide),.few (by decide)⟩
 ·exact h.elim
theorem Tk{own:Bool}{op:Op}(h:Io P D own ev objs op K):wh (λo K=>Io P D own ev o op K) objs K:=by
 unfold Io at h
 split at h
 ·exact .zero h λ_ _ hk=>hk
 ·exact .zero h λ_ _ hk=>hk
 ·exact WQ h
 ·obtain⟨h1,h2,h3,h4⟩:=h
  exact .new (λn=>.bf n 1 0 0) (.inr (.inl rfl)) _ rfl rfl h4 λ_ _ hk=>⟨h1,h2,h3,hk⟩
 ·obtain⟨h1,h2,h3,h4⟩:=h
  exact .new (λn=>.bf n 1 0 0) (.inr (.inl rfl)) _ rfl rfl h4 λ_ _ hk=>⟨h1,h2,h3,hk⟩
 ·exact UO h
 ·exact F4 h
 ·exact WR h
 ·exact UK h
 ·exact La h
 ·exact (UJ h).fac
 ·exact (WO h).fac
 ·exact WT h
 ·obtain⟨h1,h2,h3⟩:=h
  exact .zero h3 λ_ _ hk=>⟨h1,h2,hk⟩
 ·exact IC h
 ·exact UN h
 ·exact IA h
 ·exact UL h
 ·exact IB h
 ·exact UM h
 ·rename_i x i
  unfold bW at h
  split at h
  ·rename_i cs e
   obtain⟨p,h1,h2⟩:=h
   exact .zero h2 λ_ _ hk=>by show bW (ev x) i _ _;unfold bW;rw[e];exact⟨p,h1,hk⟩
  ·exact h.elim
 ·rename_i b args ts
  unfold dZ at h
  split at h
  ·rename_i t0 x0 e1 e2
   have hf:=Zd h
   have e':(λ(o:List Obj) (K:KT)=>dZ D .len ts.toList args.toList ev o K)=qL D t0 (ev x0):=by
    funext o K;unfold dZ;rw[e1,e2]
   show wh (λ(o:List Obj) (K:KT)=>dZ D .len ts.toList args.toList ev o K) objs _
   rw[e'];exact hf
  ·rename_i t0 u0 s0 x0 e1 e2
   have hf:=QN h
   have e':(λ(o:List Obj) (K:KT)=>dZ D .append ts.toList args.toList ev o K)=dK D t0 u0 (ev s0) (ev x0):=by
    funext o K;unfold dZ;rw[e1,e2]
   show wh (λ(o:List Obj) (K:KT)=>dZ D .append ts.toList args.toList ev o K) objs _
   rw[e'];exact hf
  ·obtain⟨r,g1,g2⟩:=D8 h
   exact .zero g1 λo K' hk=>g2 (λr=>K' r o 0) hk
  ·obtain⟨r,g1,g2⟩:=D8 h
   exact .zero g1 λo K' hk=>g2 (λr=>K' r o 0) hk
  ·exact h.elim
 ·exact WU h
 ·exact NN h
 ·exact QO h
 ·exact zA h
 ·exact zA h
 ·exact UQ h
 ·exact UR h
 ·exact h.elim
theorem xQ{own:Bool}{op:Op}{ev':Operand→PV}(he:∀x∈op.operands,ev x=ev' x)(h:Io P D own ev objs op K):Io P D own ev' objs op K:=by
 have hmap:∀(xs:Array Operand),(∀x∈xs,ev x=ev' x)→xs.toList.map ev=xs.toList.map ev':=
  λxs hx=>List.map_congr_left λx hm=>hx x (by simpa using hm)
 have aaE:∀(ps:Array (Nat×Operand)),(∀x∈ps.toList,ev x.2=ev' x.2)→ps.toList.map (λx=>(x.1,ev x.2))=ps.toList.map (λx=>(x.1,ev' x.2)):=
  λps hx=>List.map_congr_left λx hm=>by rw[hx x hm]
 unfold Io at h ⊢
 split at h<;> (try simp only[Op.operands,Call.operands]at he)
 case h_1 x=>rw[←he x (by simp)];exact h
 case h_2 x=>rw[←he x (by simp)];exact h
 case h_3 c x y=>rw[←he c (by simp),←he x (by simp),←he y (by simp)];exact h
 case h_4=>exact h
 case h_5 t x=>rw[←he x (by simp)];exact h
 case h_6 t ps=>rw[←aaE ps (λx hx=>he x.2 (by simp;exact⟨x.1,by simpa using hx⟩))];exact h
 case h_7 t n ps=>rw[←aaE ps (λx hx=>he x.2 (by simp;exact⟨x.1,by simpa using hx⟩))];exact h
 case h_8 t x=>rw[←he x (by simp)];exact h
 case h_9 t x y=>rw[←he x (by simp),←he y (by simp)];exact h
 case h_10 x=>rw[←he x (by simp)];exact h
 case h_11 b t x y u=>rw[←he x (by simp),←he y (by simp)];exact h
 case h_12 u t x=>rw[←he x (by simp)];exact h
 case h_13 s t x=>rw[←he x (by simp)];exact h
 case h_14 f first cap=>rw[←hmap first (λx hx=>he x (by simp[hx])),←hmap cap (λx hx=>he x (by simp[hx]))];exact h
 case h_15 t l c=>rw[←he l (by simp),←he c (by simp)];exact h
 case h_16 t x lo hi=>
  rw[←he x (by simp)]
  have e1:lo.map ev=lo.map ev':=by cases lo<;>simp;exact he _ (by simp)
  have e2:hi.map ev=hi.map ev':=by cases hi<;>simp;exact he _ (by simp)
  rw[←e1,←e2];exact h
 case h_17 t x f=>rw[←he x (by simp)];exact h
 case h_18 t x f=>rw[←he x (by simp)];exact h
 case h_19 t x i=>rw[←he x (by simp),←he i (by simp)];exact h
 case h_20 t x i=>rw[←he x (by simp),←he i (by simp)];exact h
 case h_21 x i=>rw[←he x (by simp)];exact h
 case h_22 b args ts=>
  have ha:∀x∈args,ev x=ev' x:=λx hx=>he x (by simpa using hx)
  unfold dZ at h ⊢
  split at h
  ·rename_i t x e1 e2
   rw[←ha x (by have:x∈args.toList:=by rw[e2];simp
                simpa using this)]
   exact h
  ·rename_i t u s x e1 e2
   rw[←ha s (by have:s∈args.toList:=by rw[e2];simp
                simpa using this),←ha x (by have:x∈args.toList:=by rw[e2];simp
                                            simpa using this)]
   exact h
  ·rw[←hmap args ha];exact h
  ·rw[←hmap args ha];exact h
  ·exact h.elim
 case h_23 f args ts=>
  rw[←he f (by simp),←hmap args (λx hx=>he x (by simp[hx]))];exact h
 case h_24=>exact h
 case h_25 t x ix ok=>rw[←he x (by simp),←he ix (by simp)];exact h
 case h_26 t x k v=>rw[←he x (by simp),←he k (by simp),←he v (by simp)];exact h
 case h_27 t x k v=>rw[←he x (by simp),←he k (by simp),←he v (by simp)];exact h
 case h_28 t x=>rw[←he x (by simp)];exact h
 case h_29 x=>rw[←he x (by simp)];exact h
 case h_30=>exact h.elim
end Lp
namespace Lp
open Go
def jO(base ah:Nat→Prop)(V:Wz→Prop)(S:St)(blk:Nat→Option Nat)(a:Act)(w:World):Prop:=∃w0,V w0∧Rel base ah w0 S blk a w
abbrev Env:=(Nat→Prop)→(Nat→Prop)→(Wz→Prop)→Prop
def PW(P:Program)(l:Option Nat)(E:Env)(c:Code)(Q:Exit→St→Prop)(S:St):Prop:=
 ∀(base ah:Nat→Prop) (V:Wz→Prop),E base ah V→∀(blk:Nat→Option Nat) (a:Act) (w:World),jO base ah V S blk a w→
  c.wpIn (Ba l) 0 P (λe a' w'=>∃S' ak,Q e S'∧jO base ah V S' ak a' w') a w
def Weak(m:Nat)(S S':St):Prop:=∀(base ah:Nat→Prop) (w0:Wz) (blk:Nat→Option Nat) (a:Act) (w:World),w0.nx≤m→Rel base ah w0 S blk a w→∃ak,Rel base ah w0 S' ak a w
def thenS(next:St→Prop)(Q:Exit→St→Prop):Exit→St→Prop
 | .normal,S=>next S
 | e,S=>Q e S
def rM(id:Nat)(Q:Exit→St→Prop):Exit→St→Prop
 | .exit id',S=>if id'=id then Q .normal S else Q (.exit id') S
 | e,S=>Q e S
variable {P:Program}{D:TypeId→aD}{l:Option Nat}{E:Env}{Q:Exit→St→Prop}{S:St}
theorem PW.mono {c:Code}{Q':Exit→St→Prop}(h:PW P l E c Q S)(hq:∀e S,Q e S→Q' e S):PW P l E c Q' S:=
 λbase ah V hE blk a w R=>wpIn_mono (h base ah V hE blk a w R) λe _ _ ⟨S',ak,h1,h2⟩=>⟨S',ak,hq e S' h1,h2⟩
theorem PW.weak {c:Code}{S':St}{m:Nat}(hE:∀base ah V,E base ah V→∀w0,V w0→w0.nx≤m)(hw:Weak m S S')(h:PW P l E c Q S'):PW P l E c Q S:=
 λbase ah V hE' blk a w ⟨w0,hV,R⟩=>let ⟨ak,R'⟩:=hw base ah w0 blk a w (hE base ah V hE' w0 hV) R;h base ah V hE' ak a w ⟨w0,hV,R'⟩
theorem PW.skip (h:Q .normal S):PW P l E .skip Q S:=λ_ _ _ _ blk _ _ R=>wpIn_skip ⟨S,blk,h,R⟩
theorem PW.exit {id:Nat}(h:Q (.exit id) S):PW P l E (.exit id) Q S:=λ_ _ _ _ blk _ _ R=>wpIn_exit ⟨S,blk,h,R⟩
theorem PW.ret (h:Q .ret S):PW P l E .ret Q S:=λ_ _ _ _ blk _ _ R=>wpIn_ret ⟨S,blk,h,R⟩
theorem PW.seq {x y:Code}(h:PW P l E x (thenS (λS'=>PW P l E y Q S') Q) S):PW P l E (.seq x y) Q S:=by
 intro base ah V hE blk a w R
 refine wpIn_seq (wpIn_mono (h base ah V hE blk a w R) ?_)
 rintro e a' w' ⟨S',ak,h1,h2⟩
 cases e with
 | normal=>exact h1 base ah V hE ak a' w' h2
 | _=>exact⟨S',ak,h1,h2⟩
theorem PW.block {id:Nat}{c:Code}(h:PW P l E c (rM id Q) S):PW P l E (.block id c) Q S:=by
 intro base ah V hE blk a w R
 refine wpIn_block (wpIn_mono (h base ah V hE blk a w R) ?_)
 rintro e a' w' ⟨S',ak,h1,h2⟩
 cases e with
 | exit id'=>
  simp only[Exit.inBlock,rM]at h1 ⊢
  split
  ·rename_i e;rw[if_pos e]at h1;exact⟨S',ak,h1,h2⟩
  ·rename_i e;rw[if_neg e]at h1;exact⟨S',ak,h1,h2⟩
 | _=>exact⟨S',ak,h1,h2⟩
def zB(v:PV)(X Y:Prop):Prop:=
 match v with
 | .bool b=>(b=true→X)∧(b=false→Y)
 | _=>False
theorem PW.cond {c:Operand}{x y:Code}(h:zB (S.ev c) (PW P l E x Q S) (PW P l E y Q S)):PW P l E (.cond c x y) Q S:=by
 intro base ah V hE blk a w R
 have hc:=R.choose_spec.2.ev c
 unfold zB at h
 split at h
 ·rename_i b e
  rw[e]at hc
  exact wpIn_cond_split hc.bool (λhb=>h.1 hb base ah V hE blk a w R) (λhb=>h.2 hb base ah V hE blk a w R)
 ·exact h.elim
def oU(ops:List Oper)(g:Option (Nat×Bool))(S:St)(X Y:St→Prop):Prop:=
 match g with
 | none=>X S
 | some (j,want)=>
  match (ops[j]?).bind (·.dst) with
  | none=>False
  | some d=>
   match S.tmps.getD d .dead with
   | .bool b=>(b=want→X { S with tmps:=S.tmps.set d (.bool want) })∧(b=!want→Y { S with tmps:=S.tmps.set d (.bool !want) })
   | .bY []=>Y S
   | _=>False
def pq(P:Program)(D:TypeId→aD)(own:Nat→Bool)(ops:List Oper):List Oper→Nat→St→List Nat→(St→List Nat→Prop)→Prop
 | [],_,S,ts,K=>K S ts
 | o::rest,i,S,ts,K=>
  oU ops o.guard S
   (λS=>Io P D (own i) S.ev S.objs o.op λr ai t=>pq P D own ops rest (i+1) (St.put ⟨S.tmps,ai⟩ o.dst r) (ts++[t]) K)
   (λS=>pq P D own ops rest (i+1) (S.put o.dst (.bY [])) (ts++[0]) K)
theorem xR(w:World)(ok:Nat→Prop)(objs:List Obj)(blk:Nat→Option Nat):aO w ok objs blk (.bY []) undef:=⟨[],rfl,rfl,λ_ _ _ h=>by simp at h⟩
theorem UU{base ah:Nat→Prop}{w0:Wz}{blk:Nat→Option Nat}{a:Act}{w:World}(R:Rel base ah w0 S blk a w)(d:Nat) :
  aO w (aZ base S.objs blk) S.objs blk (S.tmps.getD d .dead) (a.tmps.getD d undef):=R.ev (.tmp d)
theorem Bf{xs:List PV}{d:Nat}{p:PV}(h:xs.getD d .dead=p)(hp:p≠.dead):xs.set d p=xs:=by
 by_cases hd:d<xs.length
 ·rw[List.getD_eq_getElem?_getD,List.getElem?_eq_getElem hd,Option.getD_some]at h
  subst h
  exact List.set_getElem_self hd
 ·rw[List.getD_eq_getElem?_getD,List.getElem?_eq_none (Nat.le_of_not_lt hd),Option.getD_none]at h
  exact absurd h.symm hp
theorem wo{ops:List Oper}{g:Option (Nat×Bool)}{X Y:St→Prop}{base ah:Nat→Prop}{w0:Wz}{blk:Nat→Option Nat}{a:Act}{w:World}
  (R:Rel base ah w0 S blk a w) (h:oU ops g S X Y) (o:Oper) (ho:o.guard=g) :
  (Region.wanted o (yielded ops.toArray a.tmps)=true∧X S)∨(Region.wanted o (yielded ops.toArray a.tmps)=false∧Y S):=by
 unfold oU at h
 split at h
 ·exact .inl ⟨by simp[Region.wanted,ho],h⟩
 ·rename_i j want
  split at h
  ·exact h.elim
  ·rename_i d hd
   have hy:yielded ops.toArray a.tmps j=(match a.tmps[d]? with | some (.bool b)=>some b | _=>none):=by
    have hd':(ops.toArray[j]?).bind (·.dst)=some d:=by simpa using hd
    unfold yielded
    rw[hd']
    rfl
   have hr:=UU R d
   split at h
   ·rename_i b hb
    rw[hb]at hr
    have hv:=hr.bool
    have hlt:d<a.tmps.size:=by
     rcases Nat.lt_or_ge d a.tmps.size with hh | hh
     ·exact hh
     ·rw[Array.getD_eq_getD_getElem?,Array.getElem?_eq_none hh]at hv
      simp[undef]at hv
    have hg:a.tmps[d]?=some (.bool b):=by
     rw[Array.getD_eq_getD_getElem?,Array.getElem?_eq_getElem hlt,Option.getD_some]at hv
     rw[Array.getElem?_eq_getElem hlt,hv]
    rw[hg]at hy
    simp only[]at hy
    by_cases hbw:b=want
    ·left
     have:=h.1 hbw
     rw[Bf (by rw[hb,hbw]) (by simp)]at this
     exact⟨by simp[Region.wanted,ho,hy,hbw],this⟩
    ·right
     have hbn:b=!want:=by cases b<;>cases want<;>simp_all
     have:=h.2 hbn
     rw[Bf (by rw[hb,hbn]) (by simp)]at this
     exact⟨by simp[Region.wanted,ho,hy,hbn],this⟩
   ·rename_i hb
    rw[hb]at hr
    right
    obtain⟨vs,hv,hl⟩:=hr
    have hvs:vs=[]:=List.eq_nil_of_length_eq_zero hl.1.symm
    subst hvs
    have hn:(match a.tmps[d]? with | some (.bool b)=>some b | _=>none)=none:=by
     rw[Array.getD_eq_getD_getElem?]at hv
     cases hx:a.tmps[d]? with
     | none=>rfl
     | some v=>rw[hx,Option.getD_some]at hv;subst hv;rfl
    rw[hn]at hy
    exact⟨by simp[Region.wanted,ho,hy],h⟩
   ·exact h.elim
theorem wu{own:Nat→Bool}{ops:List Oper}{Qm:Exit→Act→World→Prop}(hD:∀t,fB P t (D t))(base ah:Nat→Prop)(w0:Wz) :
  ∀(qJ:List Oper) (k:Nat) (S:St) (ts:List Nat) (K:St→List Nat→Prop) (blk:Nat→Option Nat) (a:Act) (w:World),(∀j,qJ[j]?=ops[k+j]?)→pq P D own ops qJ k S ts K→Rel base ah w0 S blk a w→
   (∀S' ts' ak a' w',K S' ts'→Rel base ah w0 S' ak a' w'→Qm .normal a' w')→wpOpsIn (Ba l) 0 P ops.toArray Qm (List.range' k qJ.length) a w
 | [],k,S,ts,K,blk,a,w,_,h,R,hq=>hq S ts blk a w h R
 | o::qJ,k,S,ts,K,blk,a,w,hl,h,R,hq=>by
  have h0:ops.toArray[k]?=some o:=by simpa using (hl 0).symm
  have hl':∀j,qJ[j]?=ops[k+1+j]?:=λj=>by have:=hl (j+1);simpa[Nat.add_assoc,Nat.add_comm 1 j] using this
  simp only[List.length_cons,List.range'_succ,wpOpsIn,h0]
  unfold pq at h
  rcases wo R h o rfl with ⟨hw,hx⟩ | ⟨hw,hy⟩
  ·rw[if_pos hw]
   exact Be l hD R hx λr ai t v w' ak hK R' hr=>wu hD base ah w0 qJ (k+1) _ _ K ak _ w' hl' hK (R'.put hr o.dst) hq
  ·rw[if_neg (by rw[hw];simp)]
   exact⟨λ_ _=>trivial,wu hD base ah w0 qJ (k+1) _ _ K blk _ w hl' hy (R.put (xR _ _ _ _) o.dst) hq⟩
theorem PW.region {id:Nat}{ops:List Oper}(own:Nat→Bool)(hD:∀t,fB P t (D t))(h:pq P D own ops ops 0 S [] λS' _=>Q .normal S'):PW P l E (.region id ops.toArray false) Q S:=by
 intro base ah V hE blk a w ⟨w0,hV,R⟩
 refine wpIn_region ?_
 have:=wu (l:=l) (Qm:=λe a' w'=>∃S' ak,Q e S'∧jO base ah V S' ak a' w') hD base ah w0 ops 0 S [] _ blk a w (λj=>by simp) h R (λS' ts' ak a' w' hK R'=>⟨S',ak,hK,w0,hV,R'⟩)
 rw[List.range_eq_range']
 simpa using this
end Lp
