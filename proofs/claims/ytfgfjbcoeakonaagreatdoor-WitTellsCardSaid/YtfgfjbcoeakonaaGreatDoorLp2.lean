/-
  Part 2 of what the statement rests on: LpL, LpM. No condition.
-/
import Derived.Test.YtfgfjbcoeakonaaGreatDoorLp1
import Derived.OrdersIn

set_option linter.all false
namespace Lp
open Go
def co (t:Nat):Nat:=if t≤2 then t else if t % 2=0 then 1 else 2
theorem abw (k:Nat):co (4+2*k)=1:=by unfold co;rw [if_neg (by omega),if_pos (by omega)]
theorem SH (k:Nat):co (5+2*k)=2:=by unfold co;rw [if_neg (by omega),if_neg (by omega)]
theorem SI {t:Nat}(h:t≠0):co t≠0:=by unfold co;split <;> (try split) <;> omega
def Mk (mk:Nat→PV):Prop:=mk=(fun n=>.aX n 1)∨mk=(fun n=>.bL n 1 0 0)∨mk=(fun n=>.su n 1)
structure YB (A:List Obj→KT→Prop) (objs:List Obj) (r:PV) (o:List Obj) (t:Nat):Prop where
 rd:∀ k,t=4+2*k→o=objs∧k<objs.length∧∀ (dQ:List Obj) (K':KT),dQ[k]?=objs[k]?→K' r dQ t→A dQ K'
 wr:∀ k,t=5+2*k→(∃ o1,k<objs.length∧o=objs.set k o1∧∀ (dQ:List Obj) (K':KT),dQ[k]?=objs[k]?→K' r (dQ.set k o1) t→A dQ K')∨
  (k=objs.length∧∃ o1 mk,Mk mk∧r=mk k∧o=objs++[o1]∧o1.live=true∧o1.ver=1∧∀ (dQ:List Obj) (K':KT),K' (mk dQ.length) (dQ++[o1]) (5+2*dQ.length)→A dQ K')
def xD (A:List Obj→KT→Prop) (objs:List Obj) (K:KT):Prop:=
 ∃ r o t,K r o t∧(co t≠2→o=objs)∧(∀ K':KT,K' r o t→A objs K')∧(t=0→∀ (dQ:List Obj) (K':KT),K' r dQ 0→A dQ K')∧YB A objs r o t
theorem YB.few {A:List Obj→KT→Prop}{objs:List Obj}{r:PV}{o:List Obj}{t:Nat}(h:t≤2):YB A objs r o t:=⟨fun k e=>by omega,fun k e=>by omega⟩
variable {P:Program}{D:TypeId→aG}{ev:Operand→PV}{objs:List Obj}{K:KT}
theorem xD.zero {A:List Obj→KT→Prop}{r:PV}(hK:K r objs 0) (h:∀ (o:List Obj) (K':KT),K' r o 0→A o K'):xD A objs K:=⟨r,objs,0,hK,fun _=>rfl,h _,fun _ o=>h o,.few (by decide)⟩
theorem xD.rd {A:List Obj→KT→Prop}{r:PV}(k:Nat){o:Obj}(hk:objs[k]?=some o) (hK:K r objs (4+2*k)) (h:∀ (dQ:List Obj) (K':KT),dQ[k]?=objs[k]?→K' r dQ (4+2*k)→A dQ K'):xD A objs K:=
 ⟨r,objs,_,hK,fun _=>rfl,fun K' hk=>h objs K' rfl hk,fun e=>by omega,fun k' e=>by
  have:k'=k:=by omega
  subst this;exact ⟨rfl,(List.getElem?_eq_some_iff.1 hk).1,fun dQ K' he hk=>h dQ K' he hk⟩,fun k' e=>by omega⟩
theorem xD.wr {A:List Obj→KT→Prop}{r:PV}(k:Nat){o:Obj}(o1:Obj) (hk:objs[k]?=some o) (hK:K r (objs.set k o1) (5+2*k))
  (h:∀ (dQ:List Obj) (K':KT),dQ[k]?=objs[k]?→K' r (dQ.set k o1) (5+2*k)→A dQ K'):xD A objs K:=
 ⟨r,_,_,hK,fun e=>absurd (SH k) e,fun K' hk=>h objs K' rfl hk,fun e=>by omega,fun k' e=>by omega,fun k' e=>by
  have:k'=k:=by omega
  subst this;exact .inl ⟨o1,(List.getElem?_eq_some_iff.1 hk).1,rfl,fun dQ K' he hk=>h dQ K' he hk⟩⟩
theorem xD.new {A:List Obj→KT→Prop}(mk:Nat→PV) (hm:Mk mk) (o1:Obj) (hl:o1.live=true) (hv:o1.ver=1) (hK:K (mk objs.length) (objs++[o1]) (5+2*objs.length))
  (h:∀ (dQ:List Obj) (K':KT),K' (mk dQ.length) (dQ++[o1]) (5+2*dQ.length)→A dQ K'):xD A objs K:=
 ⟨_,_,_,hK,fun e=>absurd (SH _) e,fun K' hk=>h objs K' hk,fun e=>by omega,fun k' e=>by omega,fun k' e=>by
  have:k'=objs.length:=by omega
  subst this;exact .inr ⟨rfl,o1,mk,hm,rfl,rfl,hl,hv,h⟩⟩
theorem xD.two {A:List Obj→KT→Prop}{r:PV}{o:List Obj}(hK:K r o 2) (h:∀ K':KT,K' r o 2→A objs K'):xD A objs K:=⟨r,o,2,hK,fun e=>absurd (by decide) e,h,fun e=>absurd e (by decide),.few (by decide)⟩
def Nb (A:(PV→Prop)→Prop) (K:PV→Prop):Prop:=∃ r,K r∧∀ K':PV→Prop,K' r→A K'
theorem Nb.fac {A:(PV→Prop)→Prop}(h:Nb A (fun r=>K r objs 0)):xD (fun o K=>A (fun r=>K r o 0)) objs K:=by
 obtain ⟨r,h1,h2⟩:=h
 exact .zero h1 fun o K' hk=>h2 _ hk
theorem Uj {op:BinOp}{k k':IntKind}{x y:Int}{K:PV→Prop}(h:qF op k k' x y K):Nb (qF op k k' x y) K:=by
 cases op <;> simp only [qF] at h <;> (first
  | (obtain ⟨h1,h2,h3,h4⟩:=h;exact ⟨_,h4,fun _ hk=>⟨h1,h2,h3,hk⟩⟩)
  | (obtain ⟨h1,h2,h3⟩:=h;exact ⟨_,h3,fun _ hk=>⟨h1,h2,hk⟩⟩)
  | (obtain ⟨h1,h2⟩:=h;exact ⟨_,h2,fun _ hk=>⟨h1,hk⟩⟩))
theorem Uk {op:BinOp}{x y:List UInt8}{K:PV→Prop}(h:iP op x y K):Nb (iP op x y) K:=by
 cases op <;> simp only [iP] at h <;> (first
  | exact h.elim
  | (obtain ⟨h1,h2⟩:=h;exact ⟨_,h2,fun _ hk=>⟨h1,hk⟩⟩)
  | exact ⟨_,h,fun _ hk=>hk⟩)
theorem Ul {ti:aG}{t:TypeId}{op:BinOp}{x y:PV}{K:PV→Prop}(h:o_ P ti t op x y K):Nb (o_ P ti t op x y) K:=by
 unfold o_ at h
 split at h
 · exact Uj h
 · exact Uk h
 · obtain ⟨h1,h⟩:=h
   cases op <;> simp only [] at h <;> first | exact h.elim | exact ⟨_,h,fun _ hk=>⟨h1,hk⟩⟩
 · obtain ⟨h1,r,h2,h⟩:=h
   cases op <;> simp only [] at h <;> first | exact h.elim | exact ⟨_,h,fun _ hk=>⟨h1,r,h2,hk⟩⟩
 · obtain ⟨h1,h⟩:=h
   cases op <;> simp only [] at h <;> first | exact h.elim | exact ⟨_,h,fun _ hk=>⟨h1,hk⟩⟩
 · exact h.elim
theorem Wj {op:UnOp}{x:PV}{K:PV→Prop}(h:MG op x K):Nb (MG op x) K:=by
 unfold MG at h
 split at h
 · exact ⟨_,h,fun _ hk=>hk⟩
 · exact ⟨_,h.2,fun _ hk=>⟨h.1,hk⟩⟩
 · exact h.elim
theorem Qi {s d:aG}{x:PV}{K:PV→Prop}(h:mD s d x K):Nb (mD s d x) K:=by
 unfold mD at h
 split at h
 · rename_i e;exact ⟨_,h.2,fun _ hk=>by unfold mD;rw [e];exact ⟨h.1,hk⟩⟩
 · rename_i e;exact ⟨_,h.2,fun _ hk=>by unfold mD;rw [e];exact ⟨h.1,hk⟩⟩
 · rename_i e;exact ⟨_,h.2,fun _ hk=>by unfold mD;rw [e];exact ⟨h.1,hk⟩⟩
 · exact h.elim
theorem Dp {m:Bool}{xs:List PV}{K:PV→Prop}(h:h_ m xs K):Nb (h_ m xs) K:=by
 unfold h_ at h
 split at h
 · exact ⟨_,h.2,fun _ hk=>⟨h.1,hk⟩⟩
 · exact h.elim
theorem Wl {c x y:PV}(h:qm c x y objs K):xD (qm c x y) objs K:=by
 unfold qm at h
 split at h
 · exact .zero h fun _ _ hk=>hk
 · exact h.elim
theorem Wm {ti:aG}{p:PV}(h:eU ti p objs K):xD (eU ti p) objs K:=by
 unfold eU at h
 split at h
 · obtain ⟨h1,h2,h3,h4⟩:=h
   exact .zero h4 fun _ _ hk=>⟨h1,h2,h3,hk⟩
 · obtain ⟨o,e,h1,h2,h3,h4,h5,h6,h7,h8,h9⟩:=h
   exact .rd _ h1 h9 fun _ _ he hk=>⟨o,e,he.trans h1,h2,h3,h4,h5,h6,h7,h8,hk⟩
 · exact h.elim
theorem Um {ti:aG}{p v:PV}(h:jo ti p v objs K):xD (jo ti p v) objs K:=by
 unfold jo at h
 split at h
 · obtain ⟨o,e,h1,h2,h3,h4,h5,h6,h7,h8,h9,h10⟩:=h
   exact .wr _ _ h1 h10 fun _ _ he hk=>⟨o,e,he.trans h1,h2,h3,h4,h5,h6,h7,h8,h9,hk⟩
 · exact h.elim
theorem u6 {t:TypeId}{f:Nat}{X:Nat→aG→Prop}(h:dW D t f X):∃ off ti,X off ti∧∀ X':Nat→aG→Prop,X' off ti→dW D t f X':=by
 unfold dW at h
 split at h
 · rename_i fs hk
   obtain ⟨x,h1,h2,h3,h4⟩:=h
   exact ⟨_,_,h4,fun X' hx=>by unfold dW;rw [hk];exact ⟨x,h1,h2,h3,hx⟩⟩
 · exact h.elim
theorem H7 {t:TypeId}{p:PV}{f:Nat}(h:aL D t p f objs K):xD (aL D t p f) objs K:=by
 unfold aL at h
 split at h
 · obtain ⟨off,ti,⟨h1,h2,h3,h4⟩,g⟩:=u6 h
   exact .zero h4 fun _ _ hk=>by unfold aL;exact g _ ⟨h1,h2,h3,hk⟩
 · obtain ⟨o,h1,h2,h3,h⟩:=h
   obtain ⟨off,ti,h4,g⟩:=u6 h
   exact .rd _ h1 h4 fun _ _ he hk=>⟨o,he.trans h1,h2,h3,g _ hk⟩
 · exact h.elim
theorem Un {t:TypeId}{p:PV}{f:Nat}(h:nU D t p f objs K):xD (nU D t p f) objs K:=by
 unfold nU at h
 split at h
 · obtain ⟨off,ti,⟨h1,h2⟩,g⟩:=u6 h
   exact .zero h2 fun _ _ hk=>by unfold nU;exact g _ ⟨h1,hk⟩
 · exact h.elim
theorem H8 {t:TypeId}{x i:PV}(h:a_ D t x i objs K):xD (a_ D t x i) objs K:=by
 unfold a_ at h
 split at h <;> (try rename_i hk)
 · rename_i e _ _ _ _ _ hk
   obtain ⟨h1,h2,y,h3,h4,h5⟩:=h
   exact .zero h5 fun _ _ hk'=>by unfold a_;rw [hk];exact ⟨h1,h2,y,h3,h4,hk'⟩
 · rename_i e _ _ _ _ hk
   obtain ⟨h1,h2,o,h3,h4,h5,h6,h7,h8⟩:=h
   exact .rd _ h3 h8 fun _ _ he hk'=>by unfold a_;rw [hk];exact ⟨h1,h2,o,he.trans h3,h4,h5,h6,h7,hk'⟩
 · rename_i m e _ _ _ hk
   obtain ⟨h1,h2,h3,h4,h5,h6,h7⟩:=h
   exact .zero h7 fun _ _ hk'=>by unfold a_;rw [hk];exact ⟨h1,h2,h3,h4,h5,h6,hk'⟩
 · rename_i m e _ _ _ _ _ _ hk
   obtain ⟨h1,h2,h3,o,h4,h5,h6,h7⟩:=h
   exact .rd _ h4 h7 fun _ _ he hk'=>by unfold a_;rw [hk];exact ⟨h1,h2,h3,o,he.trans h4,h5,h6,hk'⟩
 · exact h.elim
theorem Uo {t:TypeId}{x i:PV}(h:kP D t x i objs K):xD (kP D t x i) objs K:=by
 unfold kP at h
 split at h <;> (try rename_i hk)
 · obtain ⟨h1,b,h2,h3⟩:=h
   exact .zero h3 fun _ _ hk'=>by unfold kP;rw [hk];exact ⟨h1,b,h2,hk'⟩
 · obtain ⟨h1,h2,h3,h4,h5,h6⟩:=h
   exact .zero h6 fun _ _ hk'=>by unfold kP;rw [hk];exact ⟨h1,h2,h3,h4,h5,hk'⟩
 · exact h.elim
theorem kQ {x:Option PV}{d:Int}{X:Int→Prop}(h:dm x d X):∃ n,X n∧∀ X':Int→Prop,X' n→dm x d X':=by
 unfold dm at h
 split at h
 · exact ⟨_,h,fun _ hx=>hx⟩
 · exact ⟨_,h,fun _ hx=>hx⟩
 · exact h.elim
theorem Uq {t:TypeId}{x:PV}{lo hi:Option PV}(h:iQ D t x lo hi objs K):xD (iQ D t x lo hi) objs K:=by
 unfold iQ at h
 split at h <;> (try rename_i hk)
 · obtain ⟨l,h,g1⟩:=kQ h
   obtain ⟨m,⟨h1,h2,h3,h4⟩,g2⟩:=kQ h
   exact .zero h4 fun _ _ hk'=>by unfold iQ;rw [hk];exact g1 _ (g2 _ ⟨h1,h2,h3,hk'⟩)
 · obtain ⟨e1,e2,h⟩:=h
   obtain ⟨l,h,g1⟩:=kQ h
   obtain ⟨m,⟨h1,h2,h3,h4⟩,g2⟩:=kQ h
   exact .zero h4 fun _ _ hk'=>by unfold iQ;rw [hk];exact ⟨e1,e2,g1 _ (g2 _ ⟨h1,h2,h3,hk'⟩)⟩
 · obtain ⟨e1,o,e2,e3,e4,e5,e6,h⟩:=h
   obtain ⟨m,⟨h1,h2,h3⟩,g2⟩:=kQ h
   exact .wr _ _ e2 h3 fun _ _ he hk'=>by unfold iQ;rw [hk];exact ⟨e1,o,he.trans e2,e3,e4,e5,e6,g2 _ ⟨h1,h2,hk'⟩⟩
 · obtain ⟨e1,e2,e3,e4,e5,e6,h⟩:=h
   obtain ⟨l,h,g1⟩:=kQ h
   obtain ⟨m,⟨h1,h2,h3,h4⟩,g2⟩:=kQ h
   exact .zero h4 fun _ _ hk'=>by unfold iQ;rw [hk];exact ⟨e1,e2,e3,e4,e5,e6,g1 _ (g2 _ ⟨h1,h2,h3,hk'⟩)⟩
 · exact h.elim
theorem YC {t:TypeId}{x:PV}(h:pq D t x objs K):xD (pq D t x) objs K:=by
 unfold pq at h
 split at h <;> (try rename_i hk)
 · exact .zero h fun _ _ hk'=>by unfold pq;rw [hk];exact hk'
 · exact .zero h fun _ _ hk'=>by unfold pq;rw [hk];exact hk'
 · obtain ⟨o,e2,e3,e4,h⟩:=h
   exact .rd _ e2 h fun _ _ he hk'=>by unfold pq;rw [hk];exact ⟨o,he.trans e2,e3,e4,hk'⟩
 · exact h.elim
theorem Ck {place:Nat→Option (Nat×Nat)}:∀ {parts:List (Nat×PV)}{cs:List PV}{X:List PV→Prop},nK place cs parts X→∃ cs',X cs'∧∀ X':List PV→Prop,X' cs'→nK place cs parts X'
 | [],cs,_,h=>⟨cs,h,fun _ hx=>hx⟩
 | (_,_)::_,_,_,⟨x,h1,h2,h3,h⟩=>
  let ⟨cs',g1,g2⟩:=Ck h
  ⟨cs',g1,fun _ hx=>⟨x,h1,h2,h3,g2 _ hx⟩⟩
theorem Ur {t:TypeId}{ps:List (Nat×PV)}(h:bE D t ps objs K):xD (bE D t ps) objs K:=by
 obtain ⟨a1,a2,a3,h⟩:=h
 unfold mJ at h
 split at h <;> (try rename_i hk)
 · obtain ⟨h1,h⟩:=h
   obtain ⟨cs,h2,g⟩:=Ck h
   exact .zero h2 fun _ _ hk'=>⟨a1,a2,a3,by unfold mJ;rw [hk];exact ⟨h1,g _ hk'⟩⟩
 · obtain ⟨h1,h⟩:=h
   obtain ⟨cs,h2,g⟩:=Ck h
   exact .zero h2 fun _ _ hk'=>⟨a1,a2,a3,by unfold mJ;rw [hk];exact ⟨h1,g _ hk'⟩⟩
 · exact h.elim
theorem Fz {own:Bool}{t:TypeId}{n:Nat}{ps:List (Nat×PV)}(h:bJ D own t n ps objs K):xD (bJ D own t n ps) objs K:=by
 unfold bJ at h
 split at h <;> (try rename_i hk)
 · obtain ⟨h1,h2,h3,h4,h5,h6,h7⟩:=h
   cases own with
   | true=>
    simp only [if_true] at h7
    exact .new (fun n=>.aX n 1) (.inl rfl) _ rfl rfl h7 fun _ _ hk'=>by unfold bJ;rw [hk];exact ⟨h1,h2,h3,h4,h5,h6,hk'⟩
   | false=>
    simp only [Bool.false_eq_true,if_false] at h7
    exact .zero h7 fun _ _ hk'=>by unfold bJ;rw [hk];exact ⟨h1,h2,h3,h4,h5,h6,hk'⟩
 · exact h.elim
theorem H9 {t:TypeId}{l c:PV}(h:fe D t l c objs K):xD (fe D t l c) objs K:=by
 unfold fe at h
 split at h <;> (try rename_i hk)
 · obtain ⟨h1,h2,h3,h4,h5,h6,h7,h8,h9⟩:=h
   exact .new (fun n=>.aX n 1) (.inl rfl) _ rfl rfl h9 fun _ _ hk'=>by unfold fe;rw [hk];exact ⟨h1,h2,h3,h4,h5,h6,h7,h8,hk'⟩
 · exact h.elim
theorem Wn {t:TypeId}{x:PV}{X:List PV→Bool→Prop}(h:mg D t x objs X):∃ ys q,X ys q∧(∀ X':List PV→Bool→Prop,X' ys q→mg D t x objs X')∧
  (q=false→∀ (dQ:List Obj) (X':List PV→Bool→Prop),X' ys q→mg D t x dQ X'):=by
 unfold mg at h
 split at h <;> (try rename_i hk)
 · exact ⟨_,_,h,fun _ hx=>by unfold mg;rw [hk];exact hx,fun _ _ _ hx=>by unfold mg;rw [hk];exact hx⟩
 · obtain ⟨o,h1,h2,h3,h⟩:=h
   exact ⟨_,_,h,fun _ hx=>by unfold mg;rw [hk];exact ⟨o,h1,h2,h3,hx⟩,fun e=>by cases e⟩
 · exact ⟨_,_,h,fun _ hx=>by unfold mg;rw [hk];exact hx,fun _ _ _ hx=>by unfold mg;rw [hk];exact hx⟩
 · exact h.elim
theorem Qj {t u:TypeId}{s x:PV}(h:dX D t u s x objs K):xD (dX D t u s x) objs K:=by
 unfold dX at h
 split at h <;> (try rename_i hk)
 · obtain ⟨h1,h2,h3,h4,h⟩:=h
   obtain ⟨ys,q,⟨hy,h⟩,g,g2⟩:=Wn h
   split at h
   · rename_i k ver
     obtain ⟨o,e1,e2,e3,e4,e5,e6,e7,e8,e9⟩:=h
     cases q with
     | true=>exact .two e9 fun _ hk'=>by unfold dX;rw [hk];exact ⟨h1,h2,h3,h4,g _ ⟨hy,o,e1,e2,e3,e4,e5,e6,e7,e8,hk'⟩⟩
     | false=>exact .wr _ _ e1 e9 fun _ _ he hk'=>by unfold dX;rw [hk];exact ⟨h1,h2,h3,h4,g2 rfl _ _ ⟨hy,o,he.trans e1,e2,e3,e4,e5,e6,e7,e8,hk'⟩⟩
   · obtain ⟨e1,e2,e3,e4,e5,e6⟩:=h
     cases q with
     | true=>exact .two e6 fun _ hk'=>by unfold dX;rw [hk];exact ⟨h1,h2,h3,h4,g _ ⟨hy,e1,e2,e3,e4,e5,hk'⟩⟩
     | false=>exact .new (fun n=>.aX n 1) (.inl rfl) _ rfl rfl e6 fun _ _ hk'=>by unfold dX;rw [hk];exact ⟨h1,h2,h3,h4,g2 rfl _ _ ⟨hy,e1,e2,e3,e4,e5,hk'⟩⟩
   · obtain ⟨e1,e2,e3⟩:=h
     cases q with
     | true=>exact .two e3 fun _ hk'=>by unfold dX;rw [hk];exact ⟨h1,h2,h3,h4,g _ ⟨hy,e1,e2,hk'⟩⟩
     | false=>exact .new (fun n=>.aX n 1) (.inl rfl) _ rfl rfl e3 fun _ _ hk'=>by unfold dX;rw [hk];exact ⟨h1,h2,h3,h4,g2 rfl _ _ ⟨hy,e1,e2,hk'⟩⟩
   · exact h.elim
 · exact h.elim
theorem Kq {x:PV}(h:dJ x objs K):xD (dJ x) objs K:=by
 unfold dJ at h
 split at h
 · exact .zero h fun _ _ hk=>hk
 · obtain ⟨o,h1,h2,h3,h⟩:=h
   exact .rd _ h1 h fun _ _ he hk=>⟨o,he.trans h1,h2,h3,hk⟩
 · exact h.elim
theorem Wo {s t:TypeId}{x:PV}(h:jJ D s t x objs K):xD (jJ D s t x) objs K:=by
 by_cases hx:∃ k ver,x=.aX k ver
 · obtain ⟨k,ver,rfl⟩:=hx
   obtain ⟨ob,bs,h1,h2,h3,h4,h5,h6,h7,h8,h9⟩:=h
   exact .rd k h1 h9 fun dQ K' he hk=>⟨ob,bs,by rw [he];exact h1,h2,h3,h4,h5,h6,h7,h8,hk⟩
 · have e:∀ (objs:List Obj) (K:KT),jJ D s t x objs K=mD (D s) (D t) x fun r=>K r objs 0:=fun objs K=>Fq fun k ver e=>hx ⟨k,ver,e⟩
   rw [e] at h
   have e2:jJ D s t x=fun (o:List Obj) (K:KT)=>mD (D s) (D t) x fun r=>K r o 0:=by funext o K;exact e o K
   rw [e2]
   exact (Qi h).fac
theorem Ea {f:FuncId}{args:List PV}{r:PV}{o:List Obj}(h:lM P f args objs r o 0) (dQ:List Obj):o=objs∧lM P f args dQ r dQ 0:=by
 cases h with
 | pure _ ha h=>exact ⟨rfl,.pure _ ha h⟩
theorem Nc {f:FuncId}{args:List PV}{r:PV}{o:List Obj}{t:Nat}(h:lM P f args objs r o t) (ht:co t≠2):o=objs:=by
 cases h with
 | pure _ ha h=>rfl
 | made _ _ _ _ _=>exact absurd (by decide) ht
 | used _ _ _=>exact absurd (by decide) ht
 | M_ _ _ _ _ _ _=>exact absurd (by decide) ht
 | SB _ _ _ _ _ _ _ _=>exact absurd (by decide) ht
 | aaC _ _ _ _ _=>rfl
theorem Wp {f:PV}{args:List PV}(h:Fw P f args objs K):xD (Fw P f args) objs K:=by
 unfold Fw at h
 split at h
 · obtain ⟨r,o,t,hc,hK⟩:=h
   refine ⟨r,o,t,hK,Nc hc,fun _ hk=>⟨r,o,t,hc,hk⟩,?_,.few (by cases hc <;> decide)⟩
   intro ht dQ K' hk
   subst ht
   exact ⟨r,dQ,0,(Ea hc dQ).2,hk⟩
 · exact h.elim
theorem Nf {t:TypeId}(h:kF D t objs K):xD (kF D t) objs K:=by
 unfold kF at h
 split at h
 · rename_i k e hk
   exact .new (fun n=>.su n 1) (.inr (.inr rfl)) _ rfl rfl h fun _ _ hk'=>by unfold kF;rw [hk];exact hk'
 · exact h.elim
theorem Qk {t:TypeId}{x ix:PV}{ok:Bool}(h:jA D t x ix ok objs K):xD (jA D t x ix ok) objs K:=by
 unfold jA at h
 split at h
 · rename_i kt et k ver hk
   obtain ⟨h1,h2,o,h3,h4,h5,h6,m,h7,h8⟩:=h
   exact .rd _ h3 h8 fun _ _ he hk'=>by unfold jA;rw [hk];exact ⟨h1,h2,o,he.trans h3,h4,h5,h6,m,h7,hk'⟩
 · exact h.elim
theorem xV {t:TypeId}{x y z:PV}(h:gG D t x y z objs K):xD (gG D t x y z) objs K:=by
 unfold gG at h
 split at h
 · rename_i kt et k ver hk
   obtain ⟨h1,h2,h2',o,h3,h4,h5,h6,m,h7,h8⟩:=h
   exact .wr _ _ h3 h8 fun _ _ he hk'=>by unfold gG;rw [hk];exact ⟨h1,h2,h2',o,he.trans h3,h4,h5,h6,m,h7,hk'⟩
 · exact h.elim
theorem SK {own:Bool}{op:Op}(h:Hf P D own ev objs op K):xD (fun o K=>Hf P D own ev o op K) objs K:=by
 unfold Hf at h
 split at h
 · exact .zero h fun _ _ hk=>hk
 · exact .zero h fun _ _ hk=>hk
 · exact Wl h
 · obtain ⟨h1,h2,h3,h4⟩:=h
   exact .new (fun n=>.bL n 1 0 0) (.inr (.inl rfl)) _ rfl rfl h4 fun _ _ hk=>⟨h1,h2,h3,hk⟩
 · obtain ⟨h1,h2,h3,h4⟩:=h
   exact .new (fun n=>.bL n 1 0 0) (.inr (.inl rfl)) _ rfl rfl h4 fun _ _ hk=>⟨h1,h2,h3,hk⟩
 · exact Ur h
 · exact Fz h
 · exact Wm h
 · exact Um h
 · exact Kq h
 · exact (Ul h).fac
 · exact (Wj h).fac
 · exact Wo h
 · obtain ⟨h1,h2,h3⟩:=h
   exact .zero h3 fun _ _ hk=>⟨h1,h2,hk⟩
 · exact H9 h
 · exact Uq h
 · exact H7 h
 · exact Un h
 · exact H8 h
 · exact Uo h
 · rename_i x i
   unfold bN at h
   split at h
   · rename_i cs e
     obtain ⟨p,h1,h2⟩:=h
     exact .zero h2 fun _ _ hk=>by show bN (ev x) i _ _;unfold bN;rw [e];exact ⟨p,h1,hk⟩
   · exact h.elim
 · rename_i b args ts
   unfold eX at h
   split at h
   · rename_i t0 x0 e1 e2
     have hf:=YC h
     have e':(fun (o:List Obj) (K:KT)=>eX D .len ts.toList args.toList ev o K)=pq D t0 (ev x0):=by
      funext o K;unfold eX;rw [e1,e2]
     show xD (fun (o:List Obj) (K:KT)=>eX D .len ts.toList args.toList ev o K) objs _
     rw [e'];exact hf
   · rename_i t0 u0 s0 x0 e1 e2
     have hf:=Qj h
     have e':(fun (o:List Obj) (K:KT)=>eX D .append ts.toList args.toList ev o K)=dX D t0 u0 (ev s0) (ev x0):=by
      funext o K;unfold eX;rw [e1,e2]
     show xD (fun (o:List Obj) (K:KT)=>eX D .append ts.toList args.toList ev o K) objs _
     rw [e'];exact hf
   · obtain ⟨r,g1,g2⟩:=Dp h
     exact .zero g1 fun o K' hk=>g2 (fun r=>K' r o 0) hk
   · obtain ⟨r,g1,g2⟩:=Dp h
     exact .zero g1 fun o K' hk=>g2 (fun r=>K' r o 0) hk
   · exact h.elim
 · exact Wp h
 · exact Nf h
 · exact Qk h
 · exact xV h
 · exact xV h
 · exact h.elim
theorem wE {own:Bool}{op:Op}{ev':Operand→PV}(he:∀ x ∈ op.operands,ev x=ev' x) (h:Hf P D own ev objs op K):Hf P D own ev' objs op K:=by
 have hmap:∀ (xs:Array Operand),(∀ x ∈ xs,ev x=ev' x)→xs.toList.map ev=xs.toList.map ev':=
  fun xs hx=>List.map_congr_left fun x hm=>hx x (by simpa using hm)
 have ZB:∀ (ps:Array (Nat×Operand)),(∀ x ∈ ps.toList,ev x.2=ev' x.2)→ps.toList.map (fun x=>(x.1,ev x.2))=ps.toList.map (fun x=>(x.1,ev' x.2)):=
  fun ps hx=>List.map_congr_left fun x hm=>by rw [hx x hm]
 unfold Hf at h ⊢
 split at h <;> (try simp only [Op.operands,Call.operands] at he)
 case h_1 x=>rw [← he x (by simp)];exact h
 case h_2 x=>rw [← he x (by simp)];exact h
 case h_3 c x y=>rw [← he c (by simp),← he x (by simp),← he y (by simp)];exact h
 case h_4=>exact h
 case h_5 t x=>rw [← he x (by simp)];exact h
 case h_6 t ps=>rw [← ZB ps (fun x hx=>he x.2 (by simp;exact ⟨x.1,by simpa using hx⟩))];exact h
 case h_7 t n ps=>rw [← ZB ps (fun x hx=>he x.2 (by simp;exact ⟨x.1,by simpa using hx⟩))];exact h
 case h_8 t x=>rw [← he x (by simp)];exact h
 case h_9 t x y=>rw [← he x (by simp),← he y (by simp)];exact h
 case h_10 x=>rw [← he x (by simp)];exact h
 case h_11 b t x y u=>rw [← he x (by simp),← he y (by simp)];exact h
 case h_12 u t x=>rw [← he x (by simp)];exact h
 case h_13 s t x=>rw [← he x (by simp)];exact h
 case h_14 f first cap=>rw [← hmap first (fun x hx=>he x (by simp [hx])),← hmap cap (fun x hx=>he x (by simp [hx]))];exact h
 case h_15 t l c=>rw [← he l (by simp),← he c (by simp)];exact h
 case h_16 t x lo hi=>
  rw [← he x (by simp)]
  have e1:lo.map ev=lo.map ev':=by cases lo <;> simp;exact he _ (by simp)
  have e2:hi.map ev=hi.map ev':=by cases hi <;> simp;exact he _ (by simp)
  rw [← e1,← e2];exact h
 case h_17 t x f=>rw [← he x (by simp)];exact h
 case h_18 t x f=>rw [← he x (by simp)];exact h
 case h_19 t x i=>rw [← he x (by simp),← he i (by simp)];exact h
 case h_20 t x i=>rw [← he x (by simp),← he i (by simp)];exact h
 case h_21 x i=>rw [← he x (by simp)];exact h
 case h_22 b args ts=>
  have ha:∀ x ∈ args,ev x=ev' x:=fun x hx=>he x (by simpa using hx)
  unfold eX at h ⊢
  split at h
  · rename_i t x e1 e2
    rw [← ha x (by have:x ∈ args.toList:=by rw [e2];simp
                   simpa using this)]
    exact h
  · rename_i t u s x e1 e2
    rw [← ha s (by have:s ∈ args.toList:=by rw [e2];simp
                   simpa using this),← ha x (by have:x ∈ args.toList:=by rw [e2];simp
                                                simpa using this)]
    exact h
  · rw [← hmap args ha];exact h
  · rw [← hmap args ha];exact h
  · exact h.elim
 case h_23 f args ts=>
  rw [← he f (by simp),← hmap args (fun x hx=>he x (by simp [hx]))];exact h
 case h_24=>exact h
 case h_25 t x ix ok=>rw [← he x (by simp),← he ix (by simp)];exact h
 case h_26 t x k v=>rw [← he x (by simp),← he k (by simp),← he v (by simp)];exact h
 case h_27 t x k v=>rw [← he x (by simp),← he k (by simp),← he v (by simp)];exact h
 case h_28=>exact h.elim
end Lp
namespace Lp
open Go
def qd (base ak:Nat→Prop) (V:Wz→Prop) (S:St) (blk:Nat→Option Nat) (a:Act) (w:World):Prop:=∃ w0,V w0∧Rel base ak w0 S blk a w
abbrev Env:=(Nat→Prop)→(Nat→Prop)→(Wz→Prop)→Prop
def PW (P:Program) (l:Option Nat) (E:Env) (c:Code) (Q:Exit→St→Prop) (S:St):Prop:=
 ∀ (base ak:Nat→Prop) (V:Wz→Prop),E base ak V→∀ (blk:Nat→Option Nat) (a:Act) (w:World),qd base ak V S blk a w→
  c.wpIn (EB l) 0 P (fun e a' w'=>∃ S' av,Q e S'∧qd base ak V S' av a' w') a w
def Weak (m:Nat) (S S':St):Prop:=∀ (base ak:Nat→Prop) (w0:Wz) (blk:Nat→Option Nat) (a:Act) (w:World),w0.nx≤m→Rel base ak w0 S blk a w→∃ av,Rel base ak w0 S' av a w
def thenS (next:St→Prop) (Q:Exit→St→Prop):Exit→St→Prop
 | .normal,S=>next S
 | e,S=>Q e S
def qH (id:Nat) (Q:Exit→St→Prop):Exit→St→Prop
 | .exit id',S=>if id'=id then Q .normal S else Q (.exit id') S
 | e,S=>Q e S
variable {P:Program}{D:TypeId→aG}{l:Option Nat}{E:Env}{Q:Exit→St→Prop}{S:St}
theorem PW.mono {c:Code}{Q':Exit→St→Prop}(h:PW P l E c Q S) (hq:∀ e S,Q e S→Q' e S):PW P l E c Q' S:=
 fun base ak V hE blk a w R=>wpIn_mono (h base ak V hE blk a w R) fun e _ _ ⟨S',av,h1,h2⟩=>⟨S',av,hq e S' h1,h2⟩
theorem PW.weak {c:Code}{S':St}{m:Nat}(hE:∀ base ak V,E base ak V→∀ w0,V w0→w0.nx≤m) (hw:Weak m S S') (h:PW P l E c Q S'):PW P l E c Q S:=
 fun base ak V hE' blk a w ⟨w0,hV,R⟩=>let ⟨av,R'⟩:=hw base ak w0 blk a w (hE base ak V hE' w0 hV) R;h base ak V hE' av a w ⟨w0,hV,R'⟩
theorem PW.skip (h:Q .normal S):PW P l E .skip Q S:=fun _ _ _ _ blk _ _ R=>wpIn_skip ⟨S,blk,h,R⟩
theorem PW.exit {id:Nat}(h:Q (.exit id) S):PW P l E (.exit id) Q S:=fun _ _ _ _ blk _ _ R=>wpIn_exit ⟨S,blk,h,R⟩
theorem PW.ret (h:Q .ret S):PW P l E .ret Q S:=fun _ _ _ _ blk _ _ R=>wpIn_ret ⟨S,blk,h,R⟩
theorem PW.seq {x y:Code}(h:PW P l E x (thenS (fun S'=>PW P l E y Q S') Q) S):PW P l E (.seq x y) Q S:=by
 intro base ak V hE blk a w R
 refine wpIn_seq (wpIn_mono (h base ak V hE blk a w R) ?_)
 rintro e a' w' ⟨S',av,h1,h2⟩
 cases e with
 | normal=>exact h1 base ak V hE av a' w' h2
 | _=>exact ⟨S',av,h1,h2⟩
theorem PW.block {id:Nat}{c:Code}(h:PW P l E c (qH id Q) S):PW P l E (.block id c) Q S:=by
 intro base ak V hE blk a w R
 refine wpIn_block (wpIn_mono (h base ak V hE blk a w R) ?_)
 rintro e a' w' ⟨S',av,h1,h2⟩
 cases e with
 | exit id'=>
  simp only [Exit.inBlock,qH] at h1 ⊢
  split
  · rename_i e;rw [if_pos e] at h1;exact ⟨S',av,h1,h2⟩
  · rename_i e;rw [if_neg e] at h1;exact ⟨S',av,h1,h2⟩
 | _=>exact ⟨S',av,h1,h2⟩
def xW (v:PV) (X Y:Prop):Prop:=
 match v with
 | .bool b=>(b=true→X)∧(b=false→Y)
 | _=>False
theorem PW.cond {c:Operand}{x y:Code}(h:xW (S.ev c) (PW P l E x Q S) (PW P l E y Q S)):PW P l E (.cond c x y) Q S:=by
 intro base ak V hE blk a w R
 have hc:=R.choose_spec.2.ev c
 unfold xW at h
 split at h
 · rename_i b e
   rw [e] at hc
   exact wpIn_cond_split hc.bool (fun hb=>h.1 hb base ak V hE blk a w R) (fun hb=>h.2 hb base ak V hE blk a w R)
 · exact h.elim
def nV (ops:List Oper) (g:Option (Nat×Bool)) (S:St) (X Y:St→Prop):Prop:=
 match g with
 | none=>X S
 | some (j,want)=>
  match (ops[j]?).bind (·.dst) with
  | none=>False
  | some d=>
   match S.tmps.getD d .dead with
   | .bool b=>(b=want→X { S with tmps:=S.tmps.set d (.bool want) })∧(b=!want→Y { S with tmps:=S.tmps.set d (.bool !want) })
   | .bV []=>Y S
   | _=>False
def pE (P:Program) (D:TypeId→aG) (own:Nat→Bool) (ops:List Oper):List Oper→Nat→St→List Nat→(St→List Nat→Prop)→Prop
 | [],_,S,ts,K=>K S ts
 | o::rest,i,S,ts,K=>
  nV ops o.guard S
   (fun S=>Hf P D (own i) S.ev S.objs o.op fun r objs' t=>pE P D own ops rest (i+1) (St.put ⟨S.tmps,objs'⟩ o.dst r) (ts++[t]) K)
   (fun S=>pE P D own ops rest (i+1) (S.put o.dst (.bV [])) (ts++[0]) K)
theorem wF (w:World) (ok:Nat→Prop) (objs:List Obj) (blk:Nat→Option Nat):aU w ok objs blk (.bV []) undef:=⟨[],rfl,rfl,fun _ _ _ h=>by simp at h⟩
theorem Us {base ak:Nat→Prop}{w0:Wz}{blk:Nat→Option Nat}{a:Act}{w:World}(R:Rel base ak w0 S blk a w) (d:Nat) :
  aU w (bZ base S.objs blk) S.objs blk (S.tmps.getD d .dead) (a.tmps.getD d undef):=R.ev (.tmp d)
theorem zX {xs:List PV}{d:Nat}{p:PV}(h:xs.getD d .dead=p) (hp:p≠.dead):xs.set d p=xs:=by
 by_cases hd:d<xs.length
 · rw [List.getD_eq_getElem?_getD,List.getElem?_eq_getElem hd,Option.getD_some] at h
   subst h
   exact List.set_getElem_self hd
 · rw [List.getD_eq_getElem?_getD,List.getElem?_eq_none (Nat.le_of_not_lt hd),Option.getD_none] at h
   exact absurd h.symm hp
theorem u7 {ops:List Oper}{g:Option (Nat×Bool)}{X Y:St→Prop}{base ak:Nat→Prop}{w0:Wz}{blk:Nat→Option Nat}{a:Act}{w:World}
  (R:Rel base ak w0 S blk a w) (h:nV ops g S X Y) (o:Oper) (ho:o.guard=g) :
  (Region.wanted o (yielded ops.toArray a.tmps)=true∧X S)∨(Region.wanted o (yielded ops.toArray a.tmps)=false∧Y S):=by
 unfold nV at h
 split at h
 · exact .inl ⟨by simp [Region.wanted,ho],h⟩
 · rename_i j want
   split at h
   · exact h.elim
   · rename_i d hd
     have hy:yielded ops.toArray a.tmps j=(match a.tmps[d]? with | some (.bool b)=>some b | _=>none):=by
      have hd':(ops.toArray[j]?).bind (·.dst)=some d:=by simpa using hd
      unfold yielded
      rw [hd']
      rfl
     have hr:=Us R d
     split at h
     · rename_i b hb
       rw [hb] at hr
       have hv:=hr.bool
       have hlt:d<a.tmps.size:=by
        rcases Nat.lt_or_ge d a.tmps.size with hh | hh
        · exact hh
        · rw [Array.getD_eq_getD_getElem?,Array.getElem?_eq_none hh] at hv
          simp [undef] at hv
       have hg:a.tmps[d]?=some (.bool b):=by
        rw [Array.getD_eq_getD_getElem?,Array.getElem?_eq_getElem hlt,Option.getD_some] at hv
        rw [Array.getElem?_eq_getElem hlt,hv]
       rw [hg] at hy
       simp only [] at hy
       by_cases hbw:b=want
       · left
         have:=h.1 hbw
         rw [zX (by rw [hb,hbw]) (by simp)] at this
         exact ⟨by simp [Region.wanted,ho,hy,hbw],this⟩
       · right
         have hbn:b=!want:=by cases b <;> cases want <;> simp_all
         have:=h.2 hbn
         rw [zX (by rw [hb,hbn]) (by simp)] at this
         exact ⟨by simp [Region.wanted,ho,hy,hbn],this⟩
     · rename_i hb
       rw [hb] at hr
       right
       obtain ⟨vs,hv,hl⟩:=hr
       have hvs:vs=[]:=List.eq_nil_of_length_eq_zero hl.1.symm
       subst hvs
       have hn:(match a.tmps[d]? with | some (.bool b)=>some b | _=>none)=none:=by
        rw [Array.getD_eq_getD_getElem?] at hv
        cases hx:a.tmps[d]? with
        | none=>rfl
        | some v=>rw [hx,Option.getD_some] at hv;subst hv;rfl
       rw [hn] at hy
       exact ⟨by simp [Region.wanted,ho,hy],h⟩
     · exact h.elim
theorem u_ {own:Nat→Bool}{ops:List Oper}{Qm:Exit→Act→World→Prop}(hD:∀ t,iH P t (D t)) (base ak:Nat→Prop) (w0:Wz) :
  ∀ (p_:List Oper) (k:Nat) (S:St) (ts:List Nat) (K:St→List Nat→Prop) (blk:Nat→Option Nat) (a:Act) (w:World),(∀ j,p_[j]?=ops[k+j]?)→pE P D own ops p_ k S ts K→Rel base ak w0 S blk a w→
   (∀ S' ts' av a' w',K S' ts'→Rel base ak w0 S' av a' w'→Qm .normal a' w')→wpOpsIn (EB l) 0 P ops.toArray Qm (List.range' k p_.length) a w
 | [],k,S,ts,K,blk,a,w,_,h,R,hq=>hq S ts blk a w h R
 | o::p_,k,S,ts,K,blk,a,w,hl,h,R,hq=>by
  have h0:ops.toArray[k]?=some o:=by simpa using (hl 0).symm
  have hl':∀ j,p_[j]?=ops[k+1+j]?:=fun j=>by have:=hl (j+1);simpa [Nat.add_assoc,Nat.add_comm 1 j] using this
  simp only [List.length_cons,List.range'_succ,wpOpsIn,h0]
  unfold pE at h
  rcases u7 R h o rfl with ⟨hw,hx⟩ | ⟨hw,hy⟩
  · rw [if_pos hw]
    exact zW l hD R hx fun r objs' t v w' av hK R' hr=>u_ hD base ak w0 p_ (k+1) _ _ K av _ w' hl' hK (R'.put hr o.dst) hq
  · rw [if_neg (by rw [hw];simp)]
    exact ⟨fun _ _=>trivial,u_ hD base ak w0 p_ (k+1) _ _ K blk _ w hl' hy (R.put (wF _ _ _ _) o.dst) hq⟩
theorem PW.region {id:Nat}{ops:List Oper}(own:Nat→Bool) (hD:∀ t,iH P t (D t)) (h:pE P D own ops ops 0 S [] fun S' _=>Q .normal S'):PW P l E (.region id ops.toArray false) Q S:=by
 intro base ak V hE blk a w ⟨w0,hV,R⟩
 refine wpIn_region ?_
 have:=u_ (l:=l) (Qm:=fun e a' w'=>∃ S' av,Q e S'∧qd base ak V S' av a' w') hD base ak w0 ops 0 S [] _ blk a w (fun j=>by simp) h R (fun S' ts' av a' w' hK R'=>⟨S',av,hK,w0,hV,R'⟩)
 rw [List.range_eq_range']
 simpa using this
end Lp
