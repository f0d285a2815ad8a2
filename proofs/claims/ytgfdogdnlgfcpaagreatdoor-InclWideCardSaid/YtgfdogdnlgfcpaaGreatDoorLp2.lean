/-
  Part 2 of what the statement rests on: LpK, LpL, LpM. No condition.
-/
import Derived.Test.YtgfdogdnlgfcpaaGreatDoorLp1
import Derived.RangeFuncCalls
import Derived.OrdersIn

set_option linter.all false
set_option maxHeartbeats 8000000
set_option maxRecDepth 100000
namespace Lp
open Go
def Enters (P:Program) (f:FuncId):Prop:=∃ fn,P.funcs[f]?=some fn∧(fn.name== "runtime.NumGoroutine")=false∧fn.body.isNone=false
def ai (P:Program) (f:FuncId) (args:List PV) (objs:List Obj) (r:PV) (objs':List Obj):Prop:=
 Enters P f∧
 ∀ (w:World) (blk:Nat→Option Nat) (vs:List Value) (base:Nat→Prop),(rO.holds w.heap∧∀ b,w.heap.size≤b→base b)→
  dG base (fun b=>b<w.heap.size∧aY objs blk b) objs blk w→cZ (aX w (bR base objs blk) objs blk) args vs→
  Calls P f ⟨vs⟩ w fun e w'=>∃ v au,e=.returned v∧dG base (fun b=>b<w.heap.size∧aY objs blk b) objs' au w'∧
   aX w' (bR base objs' au) objs' au r v∧(∀ b,b<w.heap.size→aY objs blk b→w'.heap[b]?=w.heap[b]?)∧w.heap.size≤w'.heap.size∧Sm w w'
def PV.qj (n:Nat):PV→PV
 | .bG k ver=>.bG (k+n) ver
 | .bI k ver i f=>.bI (k+n) ver i f
 | .lD k ver=>.lD (k+n) ver
 | p=>p
def PV.shift (n:Nat):PV→PV
 | .fn f a c=>.fn f (a.map (.qj n)) (c.map (.qj n))
 | .b_ cs=>.b_ (cs.map (.qj n))
 | .agg cs=>.agg (cs.map (.qj n))
 | p=>p.qj n
def PV.za:PV→Bool
 | .int .. | .bool _ | .str _ | .AA | .CX | .F8 | .F9 | .sl _ [] (some true)=>true
 | _=>false
def PV.flat:PV→Bool
 | .b_ cs=>cs.all PV.za
 | p=>p.za
def eX (objs:List Obj):Prop:=∀ o ∈ objs,∀ x ∈ o.xs,∀ p ∈ x.cells,p.ref=false
def adG (objs:List Obj) (p:PV) (p':PV):Prop:=
 match p with
 | .bG k ver=>∃ o,objs[k]?=some o∧o.live=true∧o.ver=ver∧(∀ x ∈ o.xs,∀ c ∈ x.cells,c.ref=false)∧p'=.sl o.sz o.xs none
 | .bI k ver i f=>∃ o e,objs[k]?=some o∧o.live=true∧o.ver=ver∧o.xs[i]?=some e∧f=0∧(∀ c ∈ e.cells,c.ref=false)∧p'=.addr e
 | p=>p.pure=true∧p'=p
def Oa (objs:List Obj):List PV→List PV→Prop
 | [],[]=>True
 | p::ps,q::qs=>adG objs p q∧Oa objs ps qs
 | _,_=>False
def PV.atom:PV→Bool
 | .int .. | .bool _ | .str _=>true
 | _=>false
def Uq (P:Program) (f:FuncId) (args:List PV) (objs:List Obj) (r:PV) (objs':List Obj):Prop:=
 Enters P f∧objs'.length=objs.length∧
 ∀ (base ak:Nat→Prop) (w0:Wz) (tmps:List PV) (blk:Nat→Option Nat) (a:Act) (w:World) (vs:List Value),Rel base ak w0 ⟨tmps,objs⟩ blk a w→
  cZ (aX w (bR base objs blk) objs blk) args vs→
  Calls P f ⟨vs⟩ w fun e w'=>∃ v au,e=.returned v∧Rel base ak w0 ⟨tmps,objs'⟩ au a w'∧aX w' (bR base objs' au) objs' au r v
inductive mH (P:Program) (f:FuncId) (args:List PV) (objs:List Obj):PV→List Obj→Nat→Prop
 | pure (r:PV) (hargs:args.all PV.pure=true) (h:ai P f args [] r []):mH P f args objs r objs 0
 | made (r:PV) (o:Obj) (hargs:args.all PV.pure=true) (hnew:eX [o]) (h:ai P f args [] r [o]):mH P f args objs (r.shift objs.length) (objs++[o]) 2
 | used (r:PV) (objs':List Obj) (h:Uq P f args objs r objs'):mH P f args objs r objs' 2
 | X5 (ver:Nat) (o:Obj) (args':List PV) (hargs:Oa objs args args') (hnew:∀ x ∈ o.xs,∀ p ∈ x.cells,p.atom=true) (h:ai P f args' [] (.bG 0 ver) [o]):mH P f args objs (.bG objs.length ver) (objs++[o]) 2
 | qW (ver:Nat) (q:PV) (o:Obj) (args':List PV) (hargs:Oa objs args args') (hnew:∀ x ∈ o.xs,∀ p ∈ x.cells,p.atom=true) (hq:q.atom=true) (h:ai P f args' [] (.b_ [.bG 0 ver,q]) [o]):mH P f args objs (.b_ [.bG objs.length ver,q]) (objs++[o]) 2
 | acz (r:PV) (args':List PV) (hargs:Oa objs args args') (hr:r.flat=true) (h:ai P f args' [] r []):mH P f args objs r objs 1
def Gn (P:Program) (f:PV) (args:List PV) (objs:List Obj) (K:KT):Prop:=
 match f with
 | .fn g first cap=>∃ r objs' t,mH P g (first++args++cap) objs r objs' t∧K r objs' t
 | _=>False
def fu (D:TypeId→aD) (b:Builtin) (ts:List TypeId) (args:List Operand) (ev:Operand→PV) (objs:List Obj) (K:KT):Prop:=
 match b,ts,args with
 | .len,[t],[x]=>qg D t (ev x) objs K
 | .append,[t,u],[s,x]=>dP D t u (ev s) (ev x) objs K
 | .max,_,xs=>iO true (xs.map ev) fun r=>K r objs 0
 | .min,_,xs=>iO false (xs.map ev) fun r=>K r objs 0
 | _,_,_=>False
def IE (P:Program) (D:TypeId→aD) (own:Bool) (ev:Operand→PV) (objs:List Obj) (op:Op) (K:KT):Prop:=
 match op with
 | .move x | .assign x=>K (ev x) objs 0
 | .pick c x y=>qZ (ev c) (ev x) (ev y) objs K
 | .alloc t=>rP t (D t) objs K
 | .box t x=>IL t (D t) (ev x) objs K
 | .build t ps=>bF D t (ps.toList.map fun x=>(x.1,ev x.2)) objs K
 | .buildSlice t n ps=>bL D own t n (ps.toList.map fun x=>(x.1,ev x.2)) objs K
 | .load t x=>fq (D t) (ev x) objs K
 | .store t x y=>jT (D t) (ev x) (ev y) objs K
 | .nilCheck x=>dK (ev x) objs K
 | .binOp b t x y _=>oH P (D t) t b (ev x) (ev y) fun r=>K r objs 0
 | .unOp u _ x=>NG u (ev x) fun r=>K r objs 0
 | .convert s t x=>kD D s t (ev x) objs K
 | .makeFunc (.func f) first cap=>jQ f (first.toList.map ev) (cap.toList.map ev) objs K
 | .makeSlice t l c=>fD D t (ev l) (ev c) objs K
 | .slice t x lo hi none=>jo D t (ev x) (lo.map ev) (hi.map ev) objs K
 | .fieldAddr t x f=>aK D t (ev x) f objs K
 | .field t x f=>oV D t (ev x) f objs K
 | .indexAddr t x i=>aZ D t (ev x) (ev i) objs K
 | .index t x i=>lI D t (ev x) (ev i) objs K
 | .extract x i=>bA (ev x) i objs K
 | .call { callee:=.builtin b,args,argTypes }=>fu D b argTypes.toList args.toList ev objs K
 | .call { callee:=.value f,args,.. }=>Gn P (ev f) (args.toList.map ev) objs K
 | .makeMap t none=>kY D t objs K
 | .lookup t x ix ok=>lG D t (ev x) (ev ix) ok objs K
 | .mapUpdate t x k v=>gH D t (ev x) (ev k) (ev v) objs K
 | .insert t x k v=>gH D t (ev x) (ev k) (ev v) objs K
 | .range t x=>uM D t (ev x) objs K
 | .entry x=>uN (ev x) objs K
 | _=>False
section
variable {P:Program}{base ak:Nat→Prop}{w0:Wz}{S:St}{blk:Nat→Option Nat}{a:Act}{w:World}{D:TypeId→aD}
theorem Vw {f:FuncId}{args:Array Value}{R:Ending→World→Prop}(h:Calls P f args w R) (l:Option Nat):CallsIn (EO l) 0 P f args w R:=by
 have h':CallsIn Fence.wide 0 P f args w R:=callsIn_wide.2 h
 cases l with
 | none=>exact h'
 | some l=>exact h'.inRound l
theorem dz.o8 {ok:Nat→Prop}{p:PV}{v:Value}(h:dz w ok p v){ok':Nat→Prop}(hok:∀ b,b<w.heap.size→ok b→ok' b):dz w ok' p v:=
 h.mono (Nat.le_refl _) hok (fun _ _ _ h=>h)
theorem Kh {w':World}{ok ok':Nat→Prop}{p:PV}{v:Value}(hp:p.za=true) (h:dz w ok p v):dz w' ok' p v:=by
 cases h with
 | sl sz xs q hq=>
  exfalso
  unfold PV.za at hp
  split at hp <;> first | (cases hp;done) | skip
  all_goals first | (rename_i e;cases e;done) | (rename_i e;injection e with _ _ e3;exact hq e3) | skip
 | J6 sz q hq=>
  exfalso
  unfold PV.za at hp
  split at hp <;> first | (cases hp;done) | skip
  all_goals first | (rename_i e;cases e;done) | (rename_i e;injection e with _ _ e3;exact hq e3) | skip
 | slnil sz q hq=>exact .slnil sz q hq
 | int=>exact .int _ _
 | bool=>exact .bool _
 | str=>exact .str _
 | AA=>exact .AA
 | CX=>exact .CX
 | F8=>exact .F8
 | F9=>exact .F9
 | _=>simp [PV.za] at hp
theorem Ki {p:PV}(h:p.za=true):p.ref=false:=by
 cases p <;> first | rfl | (simp [PV.za] at h)
theorem X6 {ok ok':Nat→Prop}{objs objs':List Obj}{blk au:Nat→Option Nat}{w':World}{r:PV}{v:Value}(hr:r.flat=true) (h:aX w ok objs blk r v):aX w' ok' objs' au r v:=by
 cases r with
 | b_ cs=>
  obtain ⟨vs,rfl,h1,h2⟩:=h
  refine ⟨vs,rfl,h1,fun i p u hp hu=>?_⟩
  have hf:=List.all_eq_true.1 hr p (List.mem_of_getElem? hp)
  exact .aJ (Kh hf ((h2 i p u hp hu).Ay (Ki hf)))
 | fn f a c=>simp [PV.flat,PV.za] at hr
 | agg cs=>simp [PV.flat,PV.za] at hr
 | _=>
  simp only [PV.flat] at hr
  exact .aJ (Kh hr (bD.Ay (w:=w) (ok:=ok) (objs:=objs) (blk:=blk) h (Ki hr)))
theorem aaz (objs:List Obj) (o:Obj):(objs++[o])[objs.length]?=some o:=by simp
def sN (base:Nat→Prop) (S:St) (blk:Nat→Option Nat) (w:World) (b:Nat):Prop:=bR base S.objs blk b∨w.heap.size≤b
theorem dQ (blk:Nat→Option Nat) (b:Nat):aY [] blk b:=fun k o h=>by simp at h
theorem La {objs':List Obj}{au:Nat→Option Nat}(R:Rel base ak w0 S blk a w){b:Nat}(h:bR (sN base S blk w) objs' au b):bR base S.objs blk b:=by
 rcases h.1 with h | h
 · exact h
 · refine ⟨R.bs b (Nat.le_trans R.gr h),fun k o h1 h2 h3=>?_⟩
   have:=Fq R.objs h1 h2 h3
   omega
theorem Ob {o:Obj}{au:Nat→Option Nat}(R:Rel base ak w0 S blk a w) (ho:o.live=true){b:Nat}(h:bR (sN base S blk w) [o] au b) :
  bR base (S.objs++[o]) (aF blk S.objs.length (au 0)) b:=by
 have h0:=La R h
 refine ⟨h0.1,fun k ob h1 h2=>?_⟩
 rcases mF h1 with ⟨hk,h1⟩ | ⟨rfl,rfl⟩
 · unfold aF;rw [if_neg (by omega)];exact h0.2 k ob h1 h2
 · unfold aF;rw [if_pos rfl];exact h.2 0 ob rfl h2
theorem Rel.made {w':World}{au:Nat→Option Nat}{o:Obj}(R:Rel base ak w0 S blk a w) (hg:kN w w') (hnew:eX [o])
  (h:dG (sN base S blk w) (fun b=>b<w.heap.size∧aY [] blk b) [o] au w') :
  Rel base ak w0 ⟨S.tmps,S.objs++[o]⟩ (aF blk S.objs.length (au 0)) a w':=by
 cases ho:o.live with
 | false=>
  have hb:∀ k,k<S.objs.length→aF blk S.objs.length (au 0) k=blk k:=fun k hk=>by unfold aF;rw [if_neg (by omega)]
  have ho':nK w w' S.objs (S.objs++[o]) blk (aF blk S.objs.length (au 0)):=by
   intro k ob hk
   have hkl:=(List.getElem?_eq_some_iff.1 hk).1
   exact ⟨ob,by rw [List.getElem?_append,if_pos hkl];exact hk,Nat.le_refl _,fun hl _=>⟨hl,hb k hkl,rfl,rfl,fun _=>rfl,fun g c _ hc=>⟨c,hg.2.1 g _ hc,rfl⟩⟩⟩
  have hget:∀ (k:Nat) (ob:Obj),(S.objs++[o])[k]?=some ob→ob.live=true→k<S.objs.length∧S.objs[k]?=some ob:=by
   intro k ob h1 h2
   rcases mF h1 with h1 | ⟨_,rfl⟩
   · exact h1
   · rw [ho] at h2;cases h2
  have hok:∀ b,bR base S.objs blk b→bR base (S.objs++[o]) (aF blk S.objs.length (au 0)) b:=fun b hb0=>⟨hb0.1,fun k ob h1 h2=>by
   obtain ⟨hk,h1⟩:=hget k ob h1 h2
   rw [hb k hk];exact hb0.2 k ob h1 h2⟩
  refine R.change hg.1 (fun b x _ h=>hg.2.1 b x h) (fun b _ h=>hok b h) ho' ⟨?_,?_,?_⟩ hg.2.2
  · intro k ob h1 h2
    obtain ⟨hk,h1⟩:=hget k ob h1 h2
    have hh:=R.objs.ob k ob h1 h2
    unfold cK at hh ⊢
    rw [hb k hk]
    cases hbk:blk k with
    | none=>rw [hbk] at hh;exact hh
    | some g=>
     rw [hbk] at hh
     obtain ⟨c',x1,x2,x3⟩:=hh
     refine ⟨c',hg.2.1 g _ x1,x2,fun i x hx=>⟨(x3 i x hx).1,fun j p hp=>?_⟩⟩
     obtain ⟨v,y1,y2⟩:=(x3 i x hx).2 j p hp
     exact ⟨v,y1,y2.mono hg.1 (fun b _ h=>hok b h) (fun b x _ h=>hg.2.1 b x h) ho'⟩
  · intro k k' ob ob' g hne h1 h2 h3 h4 h5 h6
    obtain ⟨hk,h1⟩:=hget k ob h1 h2
    obtain ⟨hk',h3⟩:=hget k' ob' h3 h4
    rw [hb k hk] at h5;rw [hb k' hk'] at h6
    exact R.objs.IK k k' ob ob' g hne h1 h2 h3 h4 h5 h6
  · intro k ob g h1 h2 h3 h4
    obtain ⟨hk,h1⟩:=hget k ob h1 h2
    rw [hb k hk] at h3
    exact R.objs.np k ob g h1 h2 h3 h4
 | true=>
  refine R.C9 hg (fun g hgb=>?_) fun hr=>?_
  · rcases Nat.lt_or_ge g w.heap.size with hlt | hge
    · exact absurd ⟨hlt,dQ blk g⟩ (h.np 0 o g rfl ho hgb)
    · exact hge
  · have hh:=h.ob 0 o rfl ho
    unfold cK at hh ⊢
    have hb':aF blk S.objs.length (au 0) S.objs.length=au 0:=by unfold aF;rw [if_pos rfl]
    rw [hb']
    cases hb0:au 0 with
    | none=>rw [hb0] at hh;exact hh
    | some g=>
     rw [hb0] at hh
     obtain ⟨c,x1,x2,x3⟩:=hh
     refine ⟨c,x1,x2,fun i x hx=>⟨(x3 i x hx).1,fun j p hp=>?_⟩⟩
     obtain ⟨v,y1,y2⟩:=(x3 i x hx).2 j p hp
     refine ⟨v,y1,.aJ ((y2.Ay (hnew o (by simp) x (List.mem_of_getElem? hx) p (List.mem_of_getElem? hp))).o8 fun b _ hbk=>?_)⟩
     rw [← hb0]
     exact Ob R ho hbk
theorem uO (base ak:Nat→Prop) (blk:Nat→Option Nat) (w:World):dG base ak [] blk w:=
 ⟨fun k o h=>by simp at h,fun k k' o o' g _ h=>by simp at h,fun k o g h=>by simp at h⟩
theorem Kj {args:List PV}{vs:List Value}(h:cZ (aX w (bR base S.objs blk) S.objs blk) args vs) (hp:args.all PV.pure=true) :
  cZ (aX w (bR (sN base S blk w) [] blk) [] blk) args vs:=
 ⟨h.1,fun i p v a b=>.aJ (((h.2 i p v a b).Ay (List.all_eq_true.1 hp p (List.mem_of_getElem? a))).o8 fun _ _ hb=>⟨.inl hb,dQ _ _⟩)⟩
theorem kZ {w':World}(h:∀ b,b<w.heap.size→aY [] blk b→w'.heap[b]?=w.heap[b]?) (hs:w.heap.size≤w'.heap.size∧Sm w w'):kN w w':=
 ⟨hs.1,fun b x hx=>by rw [h b (Array.getElem?_eq_some_iff.1 hx).1 (dQ _ _)];exact hx,hs.2⟩
theorem X7 (R:Rel base ak w0 S blk a w){p p':PV}{v:Value}(h:adG S.objs p p') (hr:aX w (bR base S.objs blk) S.objs blk p v):dz w (fun _=>True) p' v:=by
 cases p with
 | bG k ver=>
  obtain ⟨o,h1,h2,h3,h4,rfl⟩:=h
  have hh:=hr.bG h1 h2 h3
  unfold yJ at hh
  cases hb:blk k with
  | none=>
   rw [hb] at hh
   rw [hh.1,hh.2]
   exact .slnil _ _ (by simp)
  | some g=>
   rw [hb] at hh
   obtain ⟨cap,c,hv,x1,x2,x3,x4⟩:=hh
   obtain ⟨c',y1,y2,y3⟩:=lW R h1 h2 hb (hr.uJ h1 h2 h3)
   rw [x1] at y1;cases y1
   rw [hv]
   refine .sl o.sz o.xs none (by simp) g 0 cap (fun i j=>(c[i*o.sz+j]?).getD undef) (fun _=>⟨trivial,(Array.getElem?_eq_some_iff.1 x1).1⟩) x2 x3 (fun i x hx=>(y3 i x hx).1) ?_ ?_
   · intro i x j p hx hp
     obtain ⟨u,u1,_⟩:=(y3 i x hx).2 j p hp
     simp [World.cell?,x1,u1]
   · intro i x j p hx hp
     obtain ⟨u,u1,u2⟩:=(y3 i x hx).2 j p hp
     rw [u1,Option.getD_some]
     exact (u2.Ay (h4 x (List.mem_of_getElem? hx) p (List.mem_of_getElem? hp))).o8 fun _ _ _=>trivial
 | bI k ver i f=>
  obtain ⟨o,e,h1,h2,h3,h4,rfl,h5,rfl⟩:=h
  obtain ⟨g,hb,hv,hty⟩:=hr.bI h1 h2 h3
  obtain ⟨y1,y2⟩:=Rh R.objs h1 h2 h4 hb hty
  obtain ⟨c,x1,_⟩:=lW R h1 h2 hb hty
  rw [hv]
  refine .aap ⟨trivial,(Array.getElem?_eq_some_iff.1 x1).1⟩ fun j p hp=>?_
  obtain ⟨u,u1,u2⟩:=y2 j p hp
  exact ⟨u,u1,(u2.Ay (h5 p (List.mem_of_getElem? hp))).o8 fun _ _ _=>trivial⟩
 | _=>
  obtain ⟨h1,rfl⟩:=h
  exact (hr.Ay h1).o8 fun _ _ _=>trivial
theorem xP (R:Rel base ak w0 S blk a w):∀ {ps qs:List PV}{vs:List Value},Oa S.objs ps qs→cZ (aX w (bR base S.objs blk) S.objs blk) ps vs→cZ (dz w (fun _=>True)) qs vs
 | [],[],vs,_,h=>⟨h.1,fun i p v hp=>by simp at hp⟩
 | p::ps,q::qs,vs,h,hr=>by
  obtain ⟨h1,h2⟩:=h
  match vs,hr with
  | [],hr=>exact absurd hr.1 (by simp)
  | v::vs,hr=>
   have ih:=xP R h2 ⟨by simpa using hr.1,fun i p u a b=>hr.2 (i+1) p u (by simpa using a) (by simpa using b)⟩
   refine ⟨by simpa using ih.1,fun i p' u hp hu=>?_⟩
   cases i with
   | zero=>simp at hp hu;subst hp;subst hu;exact X7 R h1 (hr.2 0 p v rfl rfl)
   | succ i=>exact ih.2 i p' u (by simpa using hp) (by simpa using hu)
theorem bD.acA {w':World}{ok:Nat→Prop}{au:Nat→Option Nat}{p:PV}{v:Value}(h:bD w' ok [] au p v):dz w' ok p v:=by
 cases p with
 | bG k ver=>obtain ⟨_,o,h,_⟩:=h;simp at h
 | bI k ver i f=>obtain ⟨_,o,h,_⟩:=h;simp at h
 | lD k ver=>obtain ⟨_,o,h,_⟩:=h;simp at h
 | _=>exact h
def PV.Rn (f:PV→PV):PV→PV
 | .fn g a c=>.fn g (a.map f) (c.map f)
 | .b_ cs=>.b_ (cs.map f)
 | .agg cs=>.agg (cs.map f)
 | p=>f p
theorem aX.Rn {w':World}{ok ok':Nat→Prop}{objs objs':List Obj}{blk au:Nat→Option Nat}{p:PV}{v:Value}{f:PV→PV}(h:aX w' ok objs blk p v)
  (hf:∀ q u,bD w' ok objs blk q u→bD w' ok' objs' au (f q) u) :
  aX w' ok' objs' au (p.Rn f) v:=by
 have hl:∀ cs vs,cZ (bD w' ok objs blk) cs vs→cZ (bD w' ok' objs' au) (cs.map f) vs:=by
  intro cs vs h
  refine ⟨by simpa using h.1,fun i p v hp hv=>?_⟩
  rw [List.getElem?_map] at hp
  cases hc:cs[i]? with
  | none=>rw [hc] at hp;simp at hp
  | some q=>rw [hc] at hp;simp at hp;subst hp;exact hf q v (h.2 i q v hc hv)
 cases p with
 | fn g a c=>obtain ⟨va,vc,rfl,h1,h2⟩:=h;exact ⟨va,vc,rfl,hl _ _ h1,hl _ _ h2⟩
 | b_ cs=>obtain ⟨vs,rfl,h1⟩:=h;exact ⟨vs,rfl,hl _ _ h1⟩
 | agg cs=>obtain ⟨vs,rfl,h1⟩:=h;exact ⟨vs,rfl,hl _ _ h1⟩
 | _=>exact .kM (hf _ _ h)
theorem X8 (n:Nat) (p:PV):p.shift n=p.Rn (.qj n):=by
 cases p <;> rfl
theorem id_eq (p:PV):p=p.Rn id:=by
 cases p <;> simp [PV.Rn]
theorem zH {p:PV}(h:p.atom=true):p.ref=false:=by cases p <;> first | rfl | (simp [PV.atom] at h)
theorem Gp {w':World}{ok ok':Nat→Prop}{objs objs':List Obj}{blk au:Nat→Option Nat}{p:PV}{v:Value}(hp:p.atom=true) (h:bD w ok objs blk p v):bD w' ok' objs' au p v:=by
 have h':=h.Ay (zH hp)
 refine .aJ ?_
 cases p <;> simp [PV.atom] at hp <;> cases h' <;> constructor
theorem Gq {base' acB zb:Nat→Prop}{o:Obj}{au:Nat→Option Nat}{w':World}(h:dG base' zb [o] au w') (ho:∀ x ∈ o.xs,∀ p ∈ x.cells,p.atom=true):dG acB zb [o] au w':=by
 refine ⟨fun k ob h1 h2=>?_,h.IK,h.np⟩
 have hh:=h.ob k ob h1 h2
 have he:ob=o:=by
  cases k with
  | zero=>simp at h1;exact h1.symm
  | succ k=>simp at h1
 subst he
 unfold cK at hh ⊢
 cases hb:au k with
 | none=>rw [hb] at hh;exact hh
 | some g=>
  rw [hb] at hh
  obtain ⟨c,x1,x2,x3⟩:=hh
  exact ⟨c,x1,x2,fun i x hx=>⟨(x3 i x hx).1,fun j p hp=>let ⟨v,y1,y2⟩:=(x3 i x hx).2 j p hp;⟨v,y1,Gp (ho x (List.mem_of_getElem? hx) p (List.mem_of_getElem? hp)) y2⟩⟩⟩
theorem Ro {f:FuncId}{args:List PV}{vs:List Value}{r:PV}{objs':List Obj}{t:Nat}(R:Rel base ak w0 S blk a w) (h:mH P f args S.objs r objs' t)
  (hargs:cZ (aX w (bR base S.objs blk) S.objs blk) args vs) :
  Enters P f∧Calls P f ⟨vs⟩ w fun e w'=>∃ v au,e=.returned v∧Rel base ak w0 ⟨S.tmps,objs'⟩ au a w'∧aX w' (bR base objs' au) objs' au r v:=by
 cases h with
 | pure r hp h=>
  refine ⟨h.1,(h.2 w blk vs (sN base S blk w) ⟨R.nJ,fun b hb=>.inr hb⟩ (uO _ _ _ _) (Kj hargs hp)).mono fun e w' ⟨v,au,h1,h2,h3,h4,h5⟩=>?_⟩
  have hg:=kZ h4 h5
  refine ⟨v,blk,h1,R.grew hg,?_⟩
  rw [id_eq r]
  refine h3.Rn (f:=id) fun q u hq=>?_
  have hq':=hq.acA
  refine .aJ (hq'.mono (Nat.le_refl _) (fun b _ hb=>?_) (fun _ _ _ h=>h))
  exact La R hb
 | made r o hp hnew h=>
  refine ⟨h.1,(h.2 w blk vs (sN base S blk w) ⟨R.nJ,fun b hb=>.inr hb⟩ (uO _ _ _ _) (Kj hargs hp)).mono fun e w' ⟨v,au,h1,h2,h3,h4,h5⟩=>?_⟩
  have hg:=kZ h4 h5
  refine ⟨v,aF blk S.objs.length (au 0),h1,R.made hg hnew h2,?_⟩
  rw [X8]
  refine h3.Rn fun q u hq=>?_
  have h0:∀ (k:Nat) (ob:Obj),[o][k]?=some ob→k=0∧ob=o:=by
   intro k ob hk
   cases k with
   | zero=>simp at hk;exact ⟨rfl,hk.symm⟩
   | succ k=>simp at hk
  have hbl:aF blk S.objs.length (au 0) S.objs.length=au 0:=by unfold aF;rw [if_pos rfl]
  cases q with
  | bG k ver=>
   obtain ⟨ho,ob,g1,g2,g3⟩:=hq
   obtain ⟨rfl,rfl⟩:=h0 k ob g1
   refine ⟨ho,ob,by simp,g2,fun hl hv=>?_⟩
   obtain ⟨hM,this⟩:=g3 hl hv
   refine ⟨hM,?_⟩
   unfold yJ at this ⊢
   rw [Nat.zero_add,hbl];exact this
  | bI k ver i f=>
   obtain ⟨ho,ob,g1,g2,g3⟩:=hq
   obtain ⟨rfl,rfl⟩:=h0 k ob g1
   refine ⟨ho,ob,by simp,g2,fun hl hv=>?_⟩
   obtain ⟨hM,g,e1,e2⟩:=g3 hl hv
   exact ⟨hM,g,by rw [Nat.zero_add,hbl];exact e1,e2⟩
  | lD k ver=>
   obtain ⟨ho,ob,g1,g2,g3⟩:=hq
   obtain ⟨rfl,rfl⟩:=h0 k ob g1
   refine ⟨ho,ob,by simp,g2,fun hl hv=>?_⟩
   obtain ⟨hM,g,e1,e2⟩:=g3 hl hv
   exact ⟨hM,g,by rw [Nat.zero_add,hbl];exact e1,e2⟩
  | _=>
   have hq':dz w' _ _ u:=hq
   cases hl:o.live with
   | true=>exact .aJ (hq'.mono (Nat.le_refl _) (fun b _ hb=>Ob R hl hb) (fun _ _ _ h=>h))
   | false=>
    refine .aJ (hq'.mono (Nat.le_refl _) (fun b _ hb=>?_) (fun _ _ _ h=>h))
    have h0:=La R hb
    refine ⟨h0.1,fun k ob m1 m2=>?_⟩
    rcases mF m1 with ⟨hk,m3⟩ | ⟨_,eo⟩
    · unfold aF;rw [if_neg (by omega)];exact h0.2 k ob m3 m2
    · rw [eo,hl] at m2;cases m2
 | used r objs' h=>exact ⟨h.1,h.2.2 base ak w0 S.tmps blk a w vs R hargs⟩
 | X5 ver o args' hl hnew h=>
  have ha:=xP R hl hargs
  refine ⟨h.1,(h.2 w blk vs (fun _=>True) ⟨R.nJ,fun _ _=>trivial⟩ (uO _ _ _ _) ⟨ha.1,fun i p v a b=>.aJ ((ha.2 i p v a b).o8 fun _ _ _=>⟨trivial,dQ _ _⟩)⟩).mono fun e w' ⟨v,au,h1,h2,h3,h4,h5⟩=>?_⟩
  have hg:=kZ h4 h5
  have hn:eX [o]:=fun ob Fp x hx p hp=>by
   have:ob=o:=by simpa using Fp
   subst this
   exact zH (hnew x hx p hp)
  refine ⟨v,aF blk S.objs.length (au 0),h1,R.made hg hn (Gq h2 hnew),?_⟩
  have hbl:aF blk S.objs.length (au 0) S.objs.length=au 0:=by unfold aF;rw [if_pos rfl]
  obtain ⟨ho,ob,g1,g2,g3⟩:=h3
  have he:ob=o:=by simpa using g1.symm
  subst he
  refine ⟨ho,ob,by simp,g2,fun hl hv=>?_⟩
  obtain ⟨hM,this⟩:=g3 hl hv
  refine ⟨hM,?_⟩
  unfold yJ at this ⊢
  rw [hbl];exact this
 | qW ver q o args' hl hnew hq h=>
  have ha:=xP R hl hargs
  refine ⟨h.1,(h.2 w blk vs (fun _=>True) ⟨R.nJ,fun _ _=>trivial⟩ (uO _ _ _ _) ⟨ha.1,fun i p v a b=>.aJ ((ha.2 i p v a b).o8 fun _ _ _=>⟨trivial,dQ _ _⟩)⟩).mono fun e w' ⟨v,au,h1,h2,h3,h4,h5⟩=>?_⟩
  have hg:=kZ h4 h5
  have hn:eX [o]:=fun ob Fp x hx p hp=>by
   have:ob=o:=by simpa using Fp
   subst this
   exact zH (hnew x hx p hp)
  refine ⟨v,aF blk S.objs.length (au 0),h1,R.made hg hn (Gq h2 hnew),?_⟩
  have hbl:aF blk S.objs.length (au 0) S.objs.length=au 0:=by unfold aF;rw [if_pos rfl]
  obtain ⟨us,rfl,h3⟩:=h3
  refine ⟨us,rfl,h3.1,fun i p u hp hu=>?_⟩
  match i with
  | 0=>
   cases hp
   obtain ⟨ho,ob,g1,g2,g3⟩:=h3.2 0 _ u rfl hu
   have he:ob=o:=by simpa using g1.symm
   subst he
   refine ⟨ho,ob,by simp,g2,fun hl hv=>?_⟩
   obtain ⟨hM,this⟩:=g3 hl hv
   refine ⟨hM,?_⟩
   unfold yJ at this ⊢
   rw [hbl];exact this
  | 1=>
   cases hp
   exact Gp hq (h3.2 1 _ u rfl hu)
  | i+2=>simp at hp
 | acz r args' hl hr h=>
  have ha:=xP R hl hargs
  refine ⟨h.1,(h.2 w blk vs (fun _=>True) ⟨R.nJ,fun _ _=>trivial⟩ (uO _ _ _ _) ⟨ha.1,fun i p v a b=>.aJ ((ha.2 i p v a b).o8 fun _ _ _=>⟨trivial,dQ _ _⟩)⟩).mono fun e w' ⟨v,au,h1,h2,h3,h4,h5⟩=>?_⟩
  exact ⟨v,blk,h1,R.grew (kZ h4 h5),X6 hr h3⟩
theorem Vx {f:FuncId}{args:List PV}{objs objs':List Obj}{r:PV}{t:Nat}(h:mH P f args objs r objs' t):D9 objs objs':=by
 cases h with
 | pure _ _ _=>exact .same rfl
 | acz _ _ _ _ _=>exact .same rfl
 | used _ _ h=>exact .same h.2.1
 | X5 ver o _ _ hnew _=>
  refine .of fun i x hx j p hp=>?_
  have:=hnew x (List.mem_of_getElem? hx) p (List.mem_of_getElem? hp)
  cases p <;> first | rfl | (simp [PV.atom] at this)
 | qW ver q o _ _ hnew _ _=>
  refine .of fun i x hx j p hp=>?_
  have:=hnew x (List.mem_of_getElem? hx) p (List.mem_of_getElem? hp)
  cases p <;> first | rfl | (simp [PV.atom] at this)
 | made r o _ hnew _=>
  refine .of fun i x hx j p hp=>?_
  have:=hnew o (by simp) x (List.mem_of_getElem? hx) p (List.mem_of_getElem? hp)
  cases p <;> first | rfl | (simp [PV.ref] at this)
theorem Kk {own:Bool}{o:Oper}{K:KT}{next:Act→World→Prop}{Q:Exit→Act→World→Prop}(l:Option Nat) (hD:∀ t,iN P t (D t)) (R:Rel base ak w0 S blk a w)
  (h:IE P D own S.ev S.objs o.op K)
  (hn:∀ r objs' t v w' au,K r objs' t→Rel base ak w0 ⟨S.tmps,objs'⟩ au a w'→aX w' (bR base objs' au) objs' au r v→D9 S.objs objs'→next (a.put o.dst v) w') :
  o.wpIn (EO l) 0 P a w next Q:=by
 have fin:(∀ c,o.op≠.defer c)→Out P base ak w0 S o a w K→o.wpIn (EO l) 0 P a w next Q:=by
  rintro hd ⟨v,w',r,objs',t,au,h1,h2,h3,h4,h5⟩
  exact D_ hd h1 (hn r objs' t v w' au h2 h3 h4 h5)
 unfold IE at h
 split at h <;> rename_i ho
 · exact fin (by rw [ho];simp) (NZ (.inl ho) R h)
 · exact fin (by rw [ho];simp) (NZ (.inr ho) R h)
 · exact fin (by rw [ho];simp) (XY ho R h)
 · exact fin (by rw [ho];simp) (Vj ho hD R h)
 · exact fin (by rw [ho];simp) (aar ho hD R h)
 · exact fin (by rw [ho];simp) (Vp ho hD R h)
 · exact fin (by rw [ho];simp) (Gf ho hD R h)
 · exact fin (by rw [ho];simp) (XW ho hD R h)
 · exact fin (by rw [ho];simp) (Vk ho hD R h)
 · exact fin (by rw [ho];simp) (K8 ho R h)
 · exact fin (by rw [ho];simp) (aav ho hD R h)
 · exact fin (by rw [ho];simp) (acs ho R h)
 · exact fin (by rw [ho];simp) (XZ ho hD R h)
 · exact fin (by rw [ho];simp) (K9 ho R h)
 · exact fin (by rw [ho];simp) (IV ho hD R h)
 · exact fin (by rw [ho];simp) (Vo ho hD R h)
 · exact fin (by rw [ho];simp) (IQ ho hD R h)
 · exact fin (by rw [ho];simp) (Vh ho hD R h)
 · exact fin (by rw [ho];simp) (IU ho hD R h)
 · exact fin (by rw [ho];simp) (Vi ho hD R h)
 · exact fin (by rw [ho];simp) (N7 ho R h)
 · rename_i b args argTypes
   refine fin (by rw [ho];simp) ?_
   unfold fu at h
   split at h
   · rename_i t x e1 e2
     have e1':argTypes=#[t]:=by apply Array.ext';simpa using e1
     have e2':args=#[x]:=by apply Array.ext';simpa using e2
     subst e1';subst e2'
     exact aaq ho hD R h
   · rename_i t u s x e1 e2
     have e1':argTypes=#[t,u]:=by apply Array.ext';simpa using e1
     have e2':args=#[s,x]:=by apply Array.ext';simpa using e2
     subst e1';subst e2'
     exact Rj ho hD R h
   · exact Gi (isMax:=true) ho R h
   · exact Gi (isMax:=false) ho R h
   · exact h.elim
 · rename_i f args argTypes
   unfold Gn at h
   split at h
   · rename_i g first cap e
     obtain ⟨r,objs',t,hc,hK⟩:=h
     have hf:=R.ev f
     rw [e] at hf
     obtain ⟨va,vc,hv,r1,r2⟩:=hf
     have hargs:cZ (aX w (bR base S.objs blk) S.objs blk) (first++args.toList.map S.ev++cap) (va++args.toList.map a.eval++vc):=by
      have app:∀ {ps qs:List PV}{us ws:List Value}{Rr:PV→Value→Prop},cZ Rr ps us→cZ Rr qs ws→cZ Rr (ps++qs) (us++ws):=by
       intro ps qs us ws Rr h1 h2
       refine ⟨by simp [h1.1,h2.1],fun i p v hp hv=>?_⟩
       rw [List.getElem?_append] at hp hv
       by_cases hi:i<ps.length
       · rw [if_pos hi] at hp;rw [if_pos (by rw [← h1.1];exact hi)] at hv;exact h1.2 _ _ _ hp hv
       · rw [if_neg hi] at hp;rw [if_neg (by rw [← h1.1];exact hi)] at hv;rw [← h1.1] at hv;exact h2.2 _ _ _ hp hv
      exact app (app (r1.mono fun _ _ h=>.kM h) (AP _ fun x _=>R.ev x)) (r2.mono fun _ _ h=>.kM h)
     obtain ⟨⟨fn,hfn,hname,hbody⟩,hcalls⟩:=Ro R hc hargs
     refine ⟨fun _ _=>trivial,?_⟩
     rw [Oper.semAt_eq _ _ _ (by rw [ho];simp)]
     have hrun:(execOp a.eval o).run P w=.ok (.enter g ⟨va++args.toList.map a.eval++vc⟩) w:=by
      have e1:(Array.mk va)++args.map a.eval++(Array.mk vc)=Array.mk (va++args.toList.map a.eval++vc):=by apply Array.ext';simp
      simp only [execOp,ho,resolve,hv,Deferred.ofValue,Sem.run_bind,Sem.run_pure,Result.andThen_ok,invoke,callFunc,run_program,hfn,hname,hbody,Bool.false_eq_true,if_false]
      rw [e1]
     rw [hrun]
     refine ⟨(fun h=>by cases h),?_⟩
     refine CallsIn.mono (Vw hcalls l) fun e w' ⟨v,au,h1,h2,h3⟩=>?_
     subst h1
     exact hn r objs' t v w' au hK h2 h3 (Vx hc)
   · exact h.elim
 · exact fin (by rw [ho];simp) (N_ ho R h)
 · exact fin (by rw [ho];simp) (Rm ho hD R h)
 · exact fin (by rw [ho];simp) (y_ (.inl ho) hD R h)
 · exact fin (by rw [ho];simp) (y_ (.inr ho) hD R h)
 · exact fin (by rw [ho];simp) (Vs ho hD R h)
 · exact fin (by rw [ho];simp) (Vv ho R h)
 · exact h.elim
theorem AQ {own:Bool}{o:Oper}{K:KT}{next:Act→World→Prop}{Q:Exit→Act→World→Prop}(l:Option Nat) (hD:∀ t,iN P t (D t)) (R:Rel base ak w0 S blk a w)
  (h:IE P D own S.ev S.objs o.op K)
  (hn:∀ r objs' t v w' au,K r objs' t→Rel base ak w0 ⟨S.tmps,objs'⟩ au a w'→aX w' (bR base objs' au) objs' au r v→next (a.put o.dst v) w') :
  o.wpIn (EO l) 0 P a w next Q:=Kk l hD R h fun r objs' t v w' au h1 h2 h3 _=>hn r objs' t v w' au h1 h2 h3
end
end Lp
namespace Lp
open Go
def co (t:Nat):Nat:=if t≤2 then t else if t % 2=0 then 1 else 2
theorem adH (k:Nat):co (4+2*k)=1:=by unfold co;rw [if_neg (by omega),if_pos (by omega)]
theorem Ur (k:Nat):co (5+2*k)=2:=by unfold co;rw [if_neg (by omega),if_neg (by omega)]
theorem Us {t:Nat}(h:t≠0):co t≠0:=by unfold co;split <;> (try split) <;> omega
def Mk (mk:Nat→PV):Prop:=mk=(fun n=>.bG n 1)∨mk=(fun n=>.bI n 1 0 0)∨mk=(fun n=>.lD n 1)
structure aaA (A:List Obj→KT→Prop) (objs:List Obj) (r:PV) (o:List Obj) (t:Nat):Prop where
 rd:∀ k,t=4+2*k→o=objs∧k<objs.length∧∀ (dR:List Obj) (K':KT),dR[k]?=objs[k]?→K' r dR t→A dR K'
 wr:∀ k,t=5+2*k→(∃ o1,k<objs.length∧o=objs.set k o1∧∀ (dR:List Obj) (K':KT),dR[k]?=objs[k]?→K' r (dR.set k o1) t→A dR K')∨
  (k=objs.length∧∃ o1 mk,Mk mk∧r=mk k∧o=objs++[o1]∧o1.live=true∧o1.ver=1∧∀ (dR:List Obj) (K':KT),K' (mk dR.length) (dR++[o1]) (5+2*dR.length)→A dR K')
def wH (A:List Obj→KT→Prop) (objs:List Obj) (K:KT):Prop:=
 ∃ r o t,K r o t∧(co t≠2→o=objs)∧(∀ K':KT,K' r o t→A objs K')∧(t=0→∀ (dR:List Obj) (K':KT),K' r dR 0→A dR K')∧aaA A objs r o t
theorem aaA.few {A:List Obj→KT→Prop}{objs:List Obj}{r:PV}{o:List Obj}{t:Nat}(h:t≤2):aaA A objs r o t:=⟨fun k e=>by omega,fun k e=>by omega⟩
variable {P:Program}{D:TypeId→aD}{ev:Operand→PV}{objs:List Obj}{K:KT}
theorem wH.zero {A:List Obj→KT→Prop}{r:PV}(hK:K r objs 0) (h:∀ (o:List Obj) (K':KT),K' r o 0→A o K'):wH A objs K:=⟨r,objs,0,hK,fun _=>rfl,h _,fun _ o=>h o,.few (by decide)⟩
theorem wH.rd {A:List Obj→KT→Prop}{r:PV}(k:Nat){o:Obj}(hk:objs[k]?=some o) (hK:K r objs (4+2*k)) (h:∀ (dR:List Obj) (K':KT),dR[k]?=objs[k]?→K' r dR (4+2*k)→A dR K'):wH A objs K:=
 ⟨r,objs,_,hK,fun _=>rfl,fun K' hk=>h objs K' rfl hk,fun e=>by omega,fun k' e=>by
  have:k'=k:=by omega
  subst this;exact ⟨rfl,(List.getElem?_eq_some_iff.1 hk).1,fun dR K' he hk=>h dR K' he hk⟩,fun k' e=>by omega⟩
theorem wH.wr {A:List Obj→KT→Prop}{r:PV}(k:Nat){o:Obj}(o1:Obj) (hk:objs[k]?=some o) (hK:K r (objs.set k o1) (5+2*k))
  (h:∀ (dR:List Obj) (K':KT),dR[k]?=objs[k]?→K' r (dR.set k o1) (5+2*k)→A dR K'):wH A objs K:=
 ⟨r,_,_,hK,fun e=>absurd (Ur k) e,fun K' hk=>h objs K' rfl hk,fun e=>by omega,fun k' e=>by omega,fun k' e=>by
  have:k'=k:=by omega
  subst this;exact .inl ⟨o1,(List.getElem?_eq_some_iff.1 hk).1,rfl,fun dR K' he hk=>h dR K' he hk⟩⟩
theorem wH.new {A:List Obj→KT→Prop}(mk:Nat→PV) (hm:Mk mk) (o1:Obj) (hl:o1.live=true) (hv:o1.ver=1) (hK:K (mk objs.length) (objs++[o1]) (5+2*objs.length))
  (h:∀ (dR:List Obj) (K':KT),K' (mk dR.length) (dR++[o1]) (5+2*dR.length)→A dR K'):wH A objs K:=
 ⟨_,_,_,hK,fun e=>absurd (Ur _) e,fun K' hk=>h objs K' hk,fun e=>by omega,fun k' e=>by omega,fun k' e=>by
  have:k'=objs.length:=by omega
  subst this;exact .inr ⟨rfl,o1,mk,hm,rfl,rfl,hl,hv,h⟩⟩
theorem wH.two {A:List Obj→KT→Prop}{r:PV}{o:List Obj}(hK:K r o 2) (h:∀ K':KT,K' r o 2→A objs K'):wH A objs K:=⟨r,o,2,hK,fun e=>absurd (by decide) e,h,fun e=>absurd e (by decide),.few (by decide)⟩
def Oc (A:(PV→Prop)→Prop) (K:PV→Prop):Prop:=∃ r,K r∧∀ K':PV→Prop,K' r→A K'
theorem Oc.fac {A:(PV→Prop)→Prop}(h:Oc A (fun r=>K r objs 0)):wH (fun o K=>A (fun r=>K r o 0)) objs K:=by
 obtain ⟨r,h1,h2⟩:=h
 exact .zero h1 fun o K' hk=>h2 _ hk
theorem Vy {op:BinOp}{k k':IntKind}{x y:Int}{K:PV→Prop}(h:nL op k k' x y K):Oc (nL op k k' x y) K:=by
 cases op <;> simp only [nL] at h <;> (first
  | (obtain ⟨h1,h2,h3,h4⟩:=h;exact ⟨_,h4,fun _ hk=>⟨h1,h2,h3,hk⟩⟩)
  | (obtain ⟨h1,h2,h3⟩:=h;exact ⟨_,h3,fun _ hk=>⟨h1,h2,hk⟩⟩)
  | (obtain ⟨h1,h2⟩:=h;exact ⟨_,h2,fun _ hk=>⟨h1,hk⟩⟩))
theorem Vz {op:BinOp}{x y:List UInt8}{K:PV→Prop}(h:jm op x y K):Oc (jm op x y) K:=by
 cases op <;> simp only [jm] at h <;> (first
  | exact h.elim
  | (obtain ⟨h1,h2⟩:=h;exact ⟨_,h2,fun _ hk=>⟨h1,hk⟩⟩)
  | exact ⟨_,h,fun _ hk=>hk⟩)
theorem VA {ti:aD}{t:TypeId}{op:BinOp}{x y:PV}{K:PV→Prop}(h:oH P ti t op x y K):Oc (oH P ti t op x y) K:=by
 unfold oH at h
 split at h
 · exact Vy h
 · exact Vz h
 · obtain ⟨h1,h⟩:=h
   cases op <;> simp only [] at h <;> first | exact h.elim | exact ⟨_,h,fun _ hk=>⟨h1,hk⟩⟩
 · obtain ⟨h1,r,h2,h⟩:=h
   cases op <;> simp only [] at h <;> first | exact h.elim | exact ⟨_,h,fun _ hk=>⟨h1,r,h2,hk⟩⟩
 · obtain ⟨h1,h⟩:=h
   cases op <;> simp only [] at h <;> first | exact h.elim | exact ⟨_,h,fun _ hk=>⟨h1,hk⟩⟩
 · exact h.elim
theorem X9 {op:UnOp}{x:PV}{K:PV→Prop}(h:NG op x K):Oc (NG op x) K:=by
 unfold NG at h
 split at h
 · exact ⟨_,h,fun _ hk=>hk⟩
 · exact ⟨_,h.2,fun _ hk=>⟨h.1,hk⟩⟩
 · exact h.elim
theorem Rp {s d:aD}{x:PV}{K:PV→Prop}(h:nC s d x K):Oc (nC s d x) K:=by
 unfold nC at h
 split at h
 · rename_i e;exact ⟨_,h.2,fun _ hk=>by unfold nC;rw [e];exact ⟨h.1,hk⟩⟩
 · rename_i e;exact ⟨_,h.2,fun _ hk=>by unfold nC;rw [e];exact ⟨h.1,hk⟩⟩
 · rename_i e;exact ⟨_,h.2,fun _ hk=>by unfold nC;rw [e];exact ⟨h.1,hk⟩⟩
 · exact h.elim
theorem Ed {m:Bool}{xs:List PV}{K:PV→Prop}(h:iO m xs K):Oc (iO m xs) K:=by
 unfold iO at h
 split at h
 · exact ⟨_,h.2,fun _ hk=>⟨h.1,hk⟩⟩
 · exact h.elim
theorem X_ {c x y:PV}(h:qZ c x y objs K):wH (qZ c x y) objs K:=by
 unfold qZ at h
 split at h
 · exact .zero h fun _ _ hk=>hk
 · exact h.elim
theorem Ya {ti:aD}{p:PV}(h:fq ti p objs K):wH (fq ti p) objs K:=by
 unfold fq at h
 split at h
 · obtain ⟨h1,h2,h3,h4⟩:=h
   exact .zero h4 fun _ _ hk=>⟨h1,h2,h3,hk⟩
 · obtain ⟨o,e,h1,h2,h3,h4,h5,h6,h7,h8,h9⟩:=h
   exact .rd _ h1 h9 fun _ _ he hk=>⟨o,e,he.trans h1,h2,h3,h4,h5,h6,h7,h8,hk⟩
 · exact h.elim
theorem VB {ti:aD}{p v:PV}(h:jT ti p v objs K):wH (jT ti p v) objs K:=by
 unfold jT at h
 split at h
 · obtain ⟨o,e,h1,h2,h3,h4,h5,h6,h7,h8,h9,h10⟩:=h
   exact .wr _ _ h1 h10 fun _ _ he hk=>⟨o,e,he.trans h1,h2,h3,h4,h5,h6,h7,h8,h9,hk⟩
 · exact h.elim
theorem wI {t:TypeId}{f:Nat}{X:Nat→aD→Prop}(h:d9 D t f X):∃ off ti,X off ti∧∀ X':Nat→aD→Prop,X' off ti→d9 D t f X':=by
 unfold d9 at h
 split at h
 · rename_i fs hk
   obtain ⟨x,h1,h2,h3,h4⟩:=h
   exact ⟨_,_,h4,fun X' hx=>by unfold d9;rw [hk];exact ⟨x,h1,h2,h3,hx⟩⟩
 · exact h.elim
theorem IW {t:TypeId}{p:PV}{f:Nat}(h:aK D t p f objs K):wH (aK D t p f) objs K:=by
 unfold aK at h
 split at h
 · obtain ⟨off,ti,⟨h1,h2,h3,h4⟩,g⟩:=wI h
   exact .zero h4 fun _ _ hk=>by unfold aK;exact g _ ⟨h1,h2,h3,hk⟩
 · obtain ⟨o,h1,h2,h3,h⟩:=h
   obtain ⟨off,ti,h4,g⟩:=wI h
   exact .rd _ h1 h4 fun _ _ he hk=>⟨o,he.trans h1,h2,h3,g _ hk⟩
 · exact h.elim
theorem VD {t:TypeId}{p:PV}{f:Nat}(h:oV D t p f objs K):wH (oV D t p f) objs K:=by
 unfold oV at h
 split at h
 · obtain ⟨off,ti,⟨h1,h2⟩,g⟩:=wI h
   exact .zero h2 fun _ _ hk=>by unfold oV;exact g _ ⟨h1,hk⟩
 · exact h.elim
theorem IX {t:TypeId}{x i:PV}(h:aZ D t x i objs K):wH (aZ D t x i) objs K:=by
 unfold aZ at h
 split at h <;> (try rename_i hk)
 · rename_i e _ _ _ _ _ hk
   obtain ⟨h1,h2,y,h3,h4,h5⟩:=h
   exact .zero h5 fun _ _ hk'=>by unfold aZ;rw [hk];exact ⟨h1,h2,y,h3,h4,hk'⟩
 · rename_i e _ _ _ _ hk
   obtain ⟨h1,h2,o,h3,h4,h5,h6,h7,h8⟩:=h
   exact .rd _ h3 h8 fun _ _ he hk'=>by unfold aZ;rw [hk];exact ⟨h1,h2,o,he.trans h3,h4,h5,h6,h7,hk'⟩
 · rename_i m e _ _ _ hk
   obtain ⟨h1,h2,h3,h4,h5,h6,h7⟩:=h
   exact .zero h7 fun _ _ hk'=>by unfold aZ;rw [hk];exact ⟨h1,h2,h3,h4,h5,h6,hk'⟩
 · rename_i m e _ _ _ _ _ _ hk
   obtain ⟨h1,h2,h3,o,h4,h5,h6,h7⟩:=h
   exact .rd _ h4 h7 fun _ _ he hk'=>by unfold aZ;rw [hk];exact ⟨h1,h2,h3,o,he.trans h4,h5,h6,hk'⟩
 · exact h.elim
theorem VE {t:TypeId}{x i:PV}(h:lI D t x i objs K):wH (lI D t x i) objs K:=by
 unfold lI at h
 split at h <;> (try rename_i hk)
 · obtain ⟨h1,b,h2,h3⟩:=h
   exact .zero h3 fun _ _ hk'=>by unfold lI;rw [hk];exact ⟨h1,b,h2,hk'⟩
 · obtain ⟨h1,h2,h3,h4,h5,h6⟩:=h
   exact .zero h6 fun _ _ hk'=>by unfold lI;rw [hk];exact ⟨h1,h2,h3,h4,h5,hk'⟩
 · exact h.elim
theorem lK {x:Option PV}{d:Int}{X:Int→Prop}(h:dx x d X):∃ n,X n∧∀ X':Int→Prop,X' n→dx x d X':=by
 unfold dx at h
 split at h
 · exact ⟨_,h,fun _ hx=>hx⟩
 · exact ⟨_,h,fun _ hx=>hx⟩
 · exact h.elim
theorem VF {t:TypeId}{x:PV}{lo hi:Option PV}(h:jo D t x lo hi objs K):wH (jo D t x lo hi) objs K:=by
 unfold jo at h
 split at h <;> (try rename_i hk)
 · obtain ⟨l,h,g1⟩:=lK h
   obtain ⟨m,⟨h1,h2,h3,h4⟩,g2⟩:=lK h
   exact .zero h4 fun _ _ hk'=>by unfold jo;rw [hk];exact g1 _ (g2 _ ⟨h1,h2,h3,hk'⟩)
 · obtain ⟨e1,e2,h⟩:=h
   obtain ⟨l,h,g1⟩:=lK h
   obtain ⟨m,⟨h1,h2,h3,h4⟩,g2⟩:=lK h
   exact .zero h4 fun _ _ hk'=>by unfold jo;rw [hk];exact ⟨e1,e2,g1 _ (g2 _ ⟨h1,h2,h3,hk'⟩)⟩
 · obtain ⟨e1,o,e2,e3,e4,e5,e6,h⟩:=h
   obtain ⟨m,⟨h1,h2,h3⟩,g2⟩:=lK h
   exact .wr _ _ e2 h3 fun _ _ he hk'=>by unfold jo;rw [hk];exact ⟨e1,o,he.trans e2,e3,e4,e5,e6,g2 _ ⟨h1,h2,hk'⟩⟩
 · obtain ⟨e1,e2,e3,e4,e5,e6,h⟩:=h
   obtain ⟨l,h,g1⟩:=lK h
   obtain ⟨m,⟨h1,h2,h3,h4⟩,g2⟩:=lK h
   exact .zero h4 fun _ _ hk'=>by unfold jo;rw [hk];exact ⟨e1,e2,e3,e4,e5,e6,g1 _ (g2 _ ⟨h1,h2,h3,hk'⟩)⟩
 · exact h.elim
theorem aaB {t:TypeId}{x:PV}(h:qg D t x objs K):wH (qg D t x) objs K:=by
 unfold qg at h
 split at h <;> (try rename_i hk)
 · exact .zero h fun _ _ hk'=>by unfold qg;rw [hk];exact hk'
 · exact .zero h fun _ _ hk'=>by unfold qg;rw [hk];exact hk'
 · obtain ⟨o,e2,e3,e4,h⟩:=h
   exact .rd _ e2 h fun _ _ he hk'=>by unfold qg;rw [hk];exact ⟨o,he.trans e2,e3,e4,hk'⟩
 · exact h.elim
theorem C_ {place:Nat→Option (Nat×Nat)}:∀ {parts:List (Nat×PV)}{cs:List PV}{X:List PV→Prop},mr place cs parts X→∃ cs',X cs'∧∀ X':List PV→Prop,X' cs'→mr place cs parts X'
 | [],cs,_,h=>⟨cs,h,fun _ hx=>hx⟩
 | (_,_)::_,_,_,⟨x,h1,h2,h3,h⟩=>
  let ⟨cs',g1,g2⟩:=C_ h
  ⟨cs',g1,fun _ hx=>⟨x,h1,h2,h3,g2 _ hx⟩⟩
theorem VG {t:TypeId}{ps:List (Nat×PV)}(h:bF D t ps objs K):wH (bF D t ps) objs K:=by
 obtain ⟨a1,a2,a3,h⟩:=h
 unfold lJ at h
 split at h <;> (try rename_i hk)
 · obtain ⟨h1,h⟩:=h
   obtain ⟨cs,h2,g⟩:=C_ h
   exact .zero h2 fun _ _ hk'=>⟨a1,a2,a3,by unfold lJ;rw [hk];exact ⟨h1,g _ hk'⟩⟩
 · obtain ⟨h1,h⟩:=h
   obtain ⟨cs,h2,g⟩:=C_ h
   exact .zero h2 fun _ _ hk'=>⟨a1,a2,a3,by unfold lJ;rw [hk];exact ⟨h1,g _ hk'⟩⟩
 · exact h.elim
theorem Gr {own:Bool}{t:TypeId}{n:Nat}{ps:List (Nat×PV)}(h:bL D own t n ps objs K):wH (bL D own t n ps) objs K:=by
 unfold bL at h
 split at h <;> (try rename_i hk)
 · obtain ⟨h1,h2,h3,h4,h5,h6,h7⟩:=h
   cases own with
   | true=>
    simp only [if_true] at h7
    exact .new (fun n=>.bG n 1) (.inl rfl) _ rfl rfl h7 fun _ _ hk'=>by unfold bL;rw [hk];exact ⟨h1,h2,h3,h4,h5,h6,hk'⟩
   | false=>
    simp only [Bool.false_eq_true,if_false] at h7
    exact .zero h7 fun _ _ hk'=>by unfold bL;rw [hk];exact ⟨h1,h2,h3,h4,h5,h6,hk'⟩
 · exact h.elim
theorem IY {t:TypeId}{l c:PV}(h:fD D t l c objs K):wH (fD D t l c) objs K:=by
 unfold fD at h
 split at h <;> (try rename_i hk)
 · obtain ⟨h1,h2,h3,h4,h5,h6,h7,h8,h9⟩:=h
   exact .new (fun n=>.bG n 1) (.inl rfl) _ rfl rfl h9 fun _ _ hk'=>by unfold fD;rw [hk];exact ⟨h1,h2,h3,h4,h5,h6,h7,h8,hk'⟩
 · exact h.elim
theorem Yb {t:TypeId}{x:PV}{X:List PV→Bool→Prop}(h:mD D t x objs X):∃ ys q,X ys q∧(∀ X':List PV→Bool→Prop,X' ys q→mD D t x objs X')∧
  (q=false→∀ (dR:List Obj) (X':List PV→Bool→Prop),X' ys q→mD D t x dR X'):=by
 unfold mD at h
 split at h <;> (try rename_i hk)
 · exact ⟨_,_,h,fun _ hx=>by unfold mD;rw [hk];exact hx,fun _ _ _ hx=>by unfold mD;rw [hk];exact hx⟩
 · obtain ⟨o,h1,h2,h3,h⟩:=h
   exact ⟨_,_,h,fun _ hx=>by unfold mD;rw [hk];exact ⟨o,h1,h2,h3,hx⟩,fun e=>by cases e⟩
 · exact ⟨_,_,h,fun _ hx=>by unfold mD;rw [hk];exact hx,fun _ _ _ hx=>by unfold mD;rw [hk];exact hx⟩
 · exact h.elim
theorem Rq {t u:TypeId}{s x:PV}(h:dP D t u s x objs K):wH (dP D t u s x) objs K:=by
 unfold dP at h
 split at h <;> (try rename_i hk)
 · obtain ⟨h1,h2,h3,h4,h⟩:=h
   obtain ⟨ys,q,⟨hy,h⟩,g,g2⟩:=Yb h
   split at h
   · rename_i k ver
     obtain ⟨o,e1,e2,e3,e4,e5,e6,e7,e8,e9⟩:=h
     cases q with
     | true=>exact .two e9 fun _ hk'=>by unfold dP;rw [hk];exact ⟨h1,h2,h3,h4,g _ ⟨hy,o,e1,e2,e3,e4,e5,e6,e7,e8,hk'⟩⟩
     | false=>exact .wr _ _ e1 e9 fun _ _ he hk'=>by unfold dP;rw [hk];exact ⟨h1,h2,h3,h4,g2 rfl _ _ ⟨hy,o,he.trans e1,e2,e3,e4,e5,e6,e7,e8,hk'⟩⟩
   · obtain ⟨e1,e2,e3,e4,e5,e6⟩:=h
     cases q with
     | true=>exact .two e6 fun _ hk'=>by unfold dP;rw [hk];exact ⟨h1,h2,h3,h4,g _ ⟨hy,e1,e2,e3,e4,e5,hk'⟩⟩
     | false=>exact .new (fun n=>.bG n 1) (.inl rfl) _ rfl rfl e6 fun _ _ hk'=>by unfold dP;rw [hk];exact ⟨h1,h2,h3,h4,g2 rfl _ _ ⟨hy,e1,e2,e3,e4,e5,hk'⟩⟩
   · obtain ⟨e1,e2,e3⟩:=h
     cases q with
     | true=>exact .two e3 fun _ hk'=>by unfold dP;rw [hk];exact ⟨h1,h2,h3,h4,g _ ⟨hy,e1,e2,hk'⟩⟩
     | false=>exact .new (fun n=>.bG n 1) (.inl rfl) _ rfl rfl e3 fun _ _ hk'=>by unfold dP;rw [hk];exact ⟨h1,h2,h3,h4,g2 rfl _ _ ⟨hy,e1,e2,hk'⟩⟩
   · exact h.elim
 · exact h.elim
theorem Lb {x:PV}(h:dK x objs K):wH (dK x) objs K:=by
 unfold dK at h
 split at h
 · exact .zero h fun _ _ hk=>hk
 · obtain ⟨o,h1,h2,h3,h⟩:=h
   exact .rd _ h1 h fun _ _ he hk=>⟨o,he.trans h1,h2,h3,hk⟩
 · exact h.elim
theorem Yc {s t:TypeId}{x:PV}(h:kD D s t x objs K):wH (kD D s t x) objs K:=by
 by_cases hx:∃ k ver,x=.bG k ver
 · obtain ⟨k,ver,rfl⟩:=hx
   obtain ⟨ob,bs,h1,h2,h3,h4,h5,h6,h7,h8,h9⟩:=h
   exact .rd k h1 h9 fun dR K' he hk=>⟨ob,bs,by rw [he];exact h1,h2,h3,h4,h5,h6,h7,h8,hk⟩
 · have e:∀ (objs:List Obj) (K:KT),kD D s t x objs K=nC (D s) (D t) x fun r=>K r objs 0:=fun objs K=>Gg fun k ver e=>hx ⟨k,ver,e⟩
   rw [e] at h
   have e2:kD D s t x=fun (o:List Obj) (K:KT)=>nC (D s) (D t) x fun r=>K r o 0:=by funext o K;exact e o K
   rw [e2]
   exact (Rp h).fac
theorem EQ {f:FuncId}{args:List PV}{r:PV}{o:List Obj}(h:mH P f args objs r o 0) (dR:List Obj):o=objs∧mH P f args dR r dR 0:=by
 cases h with
 | pure _ ha h=>exact ⟨rfl,.pure _ ha h⟩
theorem Od {f:FuncId}{args:List PV}{r:PV}{o:List Obj}{t:Nat}(h:mH P f args objs r o t) (ht:co t≠2):o=objs:=by
 cases h with
 | pure _ ha h=>rfl
 | made _ _ _ _ _=>exact absurd (by decide) ht
 | used _ _ _=>exact absurd (by decide) ht
 | X5 _ _ _ _ _ _=>exact absurd (by decide) ht
 | qW _ _ _ _ _ _ _ _=>exact absurd (by decide) ht
 | acz _ _ _ _ _=>rfl
theorem Yd {f:PV}{args:List PV}(h:Gn P f args objs K):wH (Gn P f args) objs K:=by
 unfold Gn at h
 split at h
 · obtain ⟨r,o,t,hc,hK⟩:=h
   refine ⟨r,o,t,hK,Od hc,fun _ hk=>⟨r,o,t,hc,hk⟩,?_,.few (by cases hc <;> decide)⟩
   intro ht dR K' hk
   subst ht
   exact ⟨r,dR,0,(EQ hc dR).2,hk⟩
 · exact h.elim
theorem Oe {t:TypeId}(h:kY D t objs K):wH (kY D t) objs K:=by
 unfold kY at h
 split at h
 · rename_i k e hk
   exact .new (fun n=>.lD n 1) (.inr (.inr rfl)) _ rfl rfl h fun _ _ hk'=>by unfold kY;rw [hk];exact hk'
 · exact h.elim
theorem Rs {t:TypeId}{x ix:PV}{ok:Bool}(h:lG D t x ix ok objs K):wH (lG D t x ix ok) objs K:=by
 unfold lG at h
 split at h
 · rename_i kt et k ver hk
   obtain ⟨h1,h2,o,h3,h4,h5,h6,m,h7,h8⟩:=h
   exact .rd _ h3 h8 fun _ _ he hk'=>by unfold lG;rw [hk];exact ⟨h1,h2,o,he.trans h3,h4,h5,h6,m,h7,hk'⟩
 · exact h.elim
theorem ze {t:TypeId}{x y z:PV}(h:gH D t x y z objs K):wH (gH D t x y z) objs K:=by
 unfold gH at h
 split at h
 · rename_i kt et k ver hk
   obtain ⟨h1,h2,h2',o,h3,h4,h5,h6,m,h7,h8⟩:=h
   exact .wr _ _ h3 h8 fun _ _ he hk'=>by unfold gH;rw [hk];exact ⟨h1,h2,h2',o,he.trans h3,h4,h5,h6,m,h7,hk'⟩
 · exact h.elim
theorem VH {t:TypeId}{x:PV}(h:uM D t x objs K):wH (uM D t x) objs K:=by
 unfold uM at h
 split at h
 · rename_i kt et k ver hk
   obtain ⟨o,h1,h2,h3,h4,h5⟩:=h
   exact .two h5 fun K' hk'=>by unfold uM;rw [hk];exact ⟨o,h1,h2,h3,h4,hk'⟩
 · exact h.elim
theorem VI {x:PV}(h:uN x objs K):wH (uN x) objs K:=by
 unfold uN at h
 split at h
 · rename_i j ver
   obtain ⟨k,kv,n,seen,i,mo,key,v,h1,h2,h3,h4,h5,h6,h7,h8⟩:=h
   exact ⟨_,objs,1,h8,fun _=>rfl,fun K' hk'=>⟨k,kv,n,seen,i,mo,key,v,h1,h2,h3,h4,h5,h6,h7,hk'⟩,fun e=>absurd e (by decide),.few (by decide)⟩
 · exact h.elim
theorem Ut {own:Bool}{op:Op}(h:IE P D own ev objs op K):wH (fun o K=>IE P D own ev o op K) objs K:=by
 unfold IE at h
 split at h
 · exact .zero h fun _ _ hk=>hk
 · exact .zero h fun _ _ hk=>hk
 · exact X_ h
 · obtain ⟨h1,h2,h3,h4⟩:=h
   exact .new (fun n=>.bI n 1 0 0) (.inr (.inl rfl)) _ rfl rfl h4 fun _ _ hk=>⟨h1,h2,h3,hk⟩
 · obtain ⟨h1,h2,h3,h4⟩:=h
   exact .new (fun n=>.bI n 1 0 0) (.inr (.inl rfl)) _ rfl rfl h4 fun _ _ hk=>⟨h1,h2,h3,hk⟩
 · exact VG h
 · exact Gr h
 · exact Ya h
 · exact VB h
 · exact Lb h
 · exact (VA h).fac
 · exact (X9 h).fac
 · exact Yc h
 · obtain ⟨h1,h2,h3⟩:=h
   exact .zero h3 fun _ _ hk=>⟨h1,h2,hk⟩
 · exact IY h
 · exact VF h
 · exact IW h
 · exact VD h
 · exact IX h
 · exact VE h
 · rename_i x i
   unfold bA at h
   split at h
   · rename_i cs e
     obtain ⟨p,h1,h2⟩:=h
     exact .zero h2 fun _ _ hk=>by show bA (ev x) i _ _;unfold bA;rw [e];exact ⟨p,h1,hk⟩
   · exact h.elim
 · rename_i b args ts
   unfold fu at h
   split at h
   · rename_i t0 x0 e1 e2
     have hf:=aaB h
     have e':(fun (o:List Obj) (K:KT)=>fu D .len ts.toList args.toList ev o K)=qg D t0 (ev x0):=by
      funext o K;unfold fu;rw [e1,e2]
     show wH (fun (o:List Obj) (K:KT)=>fu D .len ts.toList args.toList ev o K) objs _
     rw [e'];exact hf
   · rename_i t0 u0 s0 x0 e1 e2
     have hf:=Rq h
     have e':(fun (o:List Obj) (K:KT)=>fu D .append ts.toList args.toList ev o K)=dP D t0 u0 (ev s0) (ev x0):=by
      funext o K;unfold fu;rw [e1,e2]
     show wH (fun (o:List Obj) (K:KT)=>fu D .append ts.toList args.toList ev o K) objs _
     rw [e'];exact hf
   · obtain ⟨r,g1,g2⟩:=Ed h
     exact .zero g1 fun o K' hk=>g2 (fun r=>K' r o 0) hk
   · obtain ⟨r,g1,g2⟩:=Ed h
     exact .zero g1 fun o K' hk=>g2 (fun r=>K' r o 0) hk
   · exact h.elim
 · exact Yd h
 · exact Oe h
 · exact Rs h
 · exact ze h
 · exact ze h
 · exact VH h
 · exact VI h
 · exact h.elim
theorem xQ {own:Bool}{op:Op}{ev':Operand→PV}(he:∀ x ∈ op.operands,ev x=ev' x) (h:IE P D own ev objs op K):IE P D own ev' objs op K:=by
 have hmap:∀ (xs:Array Operand),(∀ x ∈ xs,ev x=ev' x)→xs.toList.map ev=xs.toList.map ev':=
  fun xs hx=>List.map_congr_left fun x hm=>hx x (by simpa using hm)
 have abx:∀ (ps:Array (Nat×Operand)),(∀ x ∈ ps.toList,ev x.2=ev' x.2)→ps.toList.map (fun x=>(x.1,ev x.2))=ps.toList.map (fun x=>(x.1,ev' x.2)):=
  fun ps hx=>List.map_congr_left fun x hm=>by rw [hx x hm]
 unfold IE at h ⊢
 split at h <;> (try simp only [Op.operands,Call.operands] at he)
 case h_1 x=>rw [← he x (by simp)];exact h
 case h_2 x=>rw [← he x (by simp)];exact h
 case h_3 c x y=>rw [← he c (by simp),← he x (by simp),← he y (by simp)];exact h
 case h_4=>exact h
 case h_5 t x=>rw [← he x (by simp)];exact h
 case h_6 t ps=>rw [← abx ps (fun x hx=>he x.2 (by simp;exact ⟨x.1,by simpa using hx⟩))];exact h
 case h_7 t n ps=>rw [← abx ps (fun x hx=>he x.2 (by simp;exact ⟨x.1,by simpa using hx⟩))];exact h
 case h_8 t x=>rw [← he x (by simp)];exact h
 case h_9 t x y=>rw [← he x (by simp),← he y (by simp)];exact h
 case h_10 x=>rw [← he x (by simp)];exact h
 case h_11 b t x y u=>rw [← he x (by simp),← he y (by simp)];exact h
 case h_12 u t x=>rw [← he x (by simp)];exact h
 case h_13 s t x=>rw [← he x (by simp)];exact h
 case h_14 f first cap=>rw [← hmap first (fun x hx=>he x (by simp [hx])),← hmap cap (fun x hx=>he x (by simp [hx]))];exact h
 case h_15 t l c=>rw [← he l (by simp),← he c (by simp)];exact h
 case h_16 t x lo hi=>
  rw [← he x (by simp)]
  have e1:lo.map ev=lo.map ev':=by cases lo <;> simp;exact he _ (by simp)
  have e2:hi.map ev=hi.map ev':=by cases hi <;> simp;exact he _ (by simp)
  rw [← e1,← e2];exact h
 case h_17 t x f=>rw [← he x (by simp)];exact h
 case h_18 t x f=>rw [← he x (by simp)];exact h
 case h_19 t x i=>rw [← he x (by simp),← he i (by simp)];exact h
 case h_20 t x i=>rw [← he x (by simp),← he i (by simp)];exact h
 case h_21 x i=>rw [← he x (by simp)];exact h
 case h_22 b args ts=>
  have ha:∀ x ∈ args,ev x=ev' x:=fun x hx=>he x (by simpa using hx)
  unfold fu at h ⊢
  split at h
  · rename_i t x e1 e2
    rw [← ha x (by have:x ∈ args.toList:=by rw [e2];simp
                   simpa using this)]
    exact h
  · rename_i t u s x e1 e2
    rw [← ha s (by have:s ∈ args.toList:=by rw [e2];simp
                   simpa using this),← ha x (by have:x ∈ args.toList:=by rw [e2];simp
                                                simpa using this)]
    exact h
  · rw [← hmap args ha];exact h
  · rw [← hmap args ha];exact h
  · exact h.elim
 case h_23 f args ts=>
  rw [← he f (by simp),← hmap args (fun x hx=>he x (by simp [hx]))];exact h
 case h_24=>exact h
 case h_25 t x ix ok=>rw [← he x (by simp),← he ix (by simp)];exact h
 case h_26 t x k v=>rw [← he x (by simp),← he k (by simp),← he v (by simp)];exact h
 case h_27 t x k v=>rw [← he x (by simp),← he k (by simp),← he v (by simp)];exact h
 case h_28 t x=>rw [← he x (by simp)];exact h
 case h_29 x=>rw [← he x (by simp)];exact h
 case h_30=>exact h.elim
end Lp
namespace Lp
open Go
def qP (base ak:Nat→Prop) (V:Wz→Prop) (S:St) (blk:Nat→Option Nat) (a:Act) (w:World):Prop:=∃ w0,V w0∧Rel base ak w0 S blk a w
abbrev Env:=(Nat→Prop)→(Nat→Prop)→(Wz→Prop)→Prop
def PW (P:Program) (l:Option Nat) (E:Env) (c:Code) (Q:Exit→St→Prop) (S:St):Prop:=
 ∀ (base ak:Nat→Prop) (V:Wz→Prop),E base ak V→∀ (blk:Nat→Option Nat) (a:Act) (w:World),qP base ak V S blk a w→
  c.wpIn (EO l) 0 P (fun e a' w'=>∃ S' au,Q e S'∧qP base ak V S' au a' w') a w
def Weak (m:Nat) (S S':St):Prop:=∀ (base ak:Nat→Prop) (w0:Wz) (blk:Nat→Option Nat) (a:Act) (w:World),w0.nx≤m→Rel base ak w0 S blk a w→∃ au,Rel base ak w0 S' au a w
def thenS (next:St→Prop) (Q:Exit→St→Prop):Exit→St→Prop
 | .normal,S=>next S
 | e,S=>Q e S
def rQ (id:Nat) (Q:Exit→St→Prop):Exit→St→Prop
 | .exit id',S=>if id'=id then Q .normal S else Q (.exit id') S
 | e,S=>Q e S
variable {P:Program}{D:TypeId→aD}{l:Option Nat}{E:Env}{Q:Exit→St→Prop}{S:St}
theorem PW.mono {c:Code}{Q':Exit→St→Prop}(h:PW P l E c Q S) (hq:∀ e S,Q e S→Q' e S):PW P l E c Q' S:=
 fun base ak V hE blk a w R=>wpIn_mono (h base ak V hE blk a w R) fun e _ _ ⟨S',au,h1,h2⟩=>⟨S',au,hq e S' h1,h2⟩
theorem PW.weak {c:Code}{S':St}{m:Nat}(hE:∀ base ak V,E base ak V→∀ w0,V w0→w0.nx≤m) (hw:Weak m S S') (h:PW P l E c Q S'):PW P l E c Q S:=
 fun base ak V hE' blk a w ⟨w0,hV,R⟩=>let ⟨au,R'⟩:=hw base ak w0 blk a w (hE base ak V hE' w0 hV) R;h base ak V hE' au a w ⟨w0,hV,R'⟩
theorem PW.skip (h:Q .normal S):PW P l E .skip Q S:=fun _ _ _ _ blk _ _ R=>wpIn_skip ⟨S,blk,h,R⟩
theorem PW.exit {id:Nat}(h:Q (.exit id) S):PW P l E (.exit id) Q S:=fun _ _ _ _ blk _ _ R=>wpIn_exit ⟨S,blk,h,R⟩
theorem PW.ret (h:Q .ret S):PW P l E .ret Q S:=fun _ _ _ _ blk _ _ R=>wpIn_ret ⟨S,blk,h,R⟩
theorem PW.seq {x y:Code}(h:PW P l E x (thenS (fun S'=>PW P l E y Q S') Q) S):PW P l E (.seq x y) Q S:=by
 intro base ak V hE blk a w R
 refine wpIn_seq (wpIn_mono (h base ak V hE blk a w R) ?_)
 rintro e a' w' ⟨S',au,h1,h2⟩
 cases e with
 | normal=>exact h1 base ak V hE au a' w' h2
 | _=>exact ⟨S',au,h1,h2⟩
theorem PW.block {id:Nat}{c:Code}(h:PW P l E c (rQ id Q) S):PW P l E (.block id c) Q S:=by
 intro base ak V hE blk a w R
 refine wpIn_block (wpIn_mono (h base ak V hE blk a w R) ?_)
 rintro e a' w' ⟨S',au,h1,h2⟩
 cases e with
 | exit id'=>
  simp only [Exit.inBlock,rQ] at h1 ⊢
  split
  · rename_i e;rw [if_pos e] at h1;exact ⟨S',au,h1,h2⟩
  · rename_i e;rw [if_neg e] at h1;exact ⟨S',au,h1,h2⟩
 | _=>exact ⟨S',au,h1,h2⟩
def zh (v:PV) (X Y:Prop):Prop:=
 match v with
 | .bool b=>(b=true→X)∧(b=false→Y)
 | _=>False
theorem PW.cond {c:Operand}{x y:Code}(h:zh (S.ev c) (PW P l E x Q S) (PW P l E y Q S)):PW P l E (.cond c x y) Q S:=by
 intro base ak V hE blk a w R
 have hc:=R.choose_spec.2.ev c
 unfold zh at h
 split at h
 · rename_i b e
   rw [e] at hc
   exact wpIn_cond_split hc.bool (fun hb=>h.1 hb base ak V hE blk a w R) (fun hb=>h.2 hb base ak V hE blk a w R)
 · exact h.elim
def oW (ops:List Oper) (g:Option (Nat×Bool)) (S:St) (X Y:St→Prop):Prop:=
 match g with
 | none=>X S
 | some (j,want)=>
  match (ops[j]?).bind (·.dst) with
  | none=>False
  | some d=>
   match S.tmps.getD d .dead with
   | .bool b=>(b=want→X { S with tmps:=S.tmps.set d (.bool want) })∧(b=!want→Y { S with tmps:=S.tmps.set d (.bool !want) })
   | .b_ []=>Y S
   | _=>False
def ql (P:Program) (D:TypeId→aD) (own:Nat→Bool) (ops:List Oper):List Oper→Nat→St→List Nat→(St→List Nat→Prop)→Prop
 | [],_,S,ts,K=>K S ts
 | o::rest,i,S,ts,K=>
  oW ops o.guard S
   (fun S=>IE P D (own i) S.ev S.objs o.op fun r objs' t=>ql P D own ops rest (i+1) (St.put ⟨S.tmps,objs'⟩ o.dst r) (ts++[t]) K)
   (fun S=>ql P D own ops rest (i+1) (S.put o.dst (.b_ [])) (ts++[0]) K)
theorem xR (w:World) (ok:Nat→Prop) (objs:List Obj) (blk:Nat→Option Nat):aX w ok objs blk (.b_ []) undef:=⟨[],rfl,rfl,fun _ _ _ h=>by simp at h⟩
theorem VJ {base ak:Nat→Prop}{w0:Wz}{blk:Nat→Option Nat}{a:Act}{w:World}(R:Rel base ak w0 S blk a w) (d:Nat) :
  aX w (bR base S.objs blk) S.objs blk (S.tmps.getD d .dead) (a.tmps.getD d undef):=R.ev (.tmp d)
theorem AR {xs:List PV}{d:Nat}{p:PV}(h:xs.getD d .dead=p) (hp:p≠.dead):xs.set d p=xs:=by
 by_cases hd:d<xs.length
 · rw [List.getD_eq_getElem?_getD,List.getElem?_eq_getElem hd,Option.getD_some] at h
   subst h
   exact List.set_getElem_self hd
 · rw [List.getD_eq_getElem?_getD,List.getElem?_eq_none (Nat.le_of_not_lt hd),Option.getD_none] at h
   exact absurd h.symm hp
theorem wJ {ops:List Oper}{g:Option (Nat×Bool)}{X Y:St→Prop}{base ak:Nat→Prop}{w0:Wz}{blk:Nat→Option Nat}{a:Act}{w:World}
  (R:Rel base ak w0 S blk a w) (h:oW ops g S X Y) (o:Oper) (ho:o.guard=g) :
  (Region.wanted o (yielded ops.toArray a.tmps)=true∧X S)∨(Region.wanted o (yielded ops.toArray a.tmps)=false∧Y S):=by
 unfold oW at h
 split at h
 · exact .inl ⟨by simp [Region.wanted,ho],h⟩
 · rename_i j want
   split at h
   · exact h.elim
   · rename_i d hd
     have hy:yielded ops.toArray a.tmps j=(match a.tmps[d]? with | some (.bool b)=>some b | _=>none):=by
      have hd':(ops.toArray[j]?).bind (·.dst)=some d:=by simpa using hd
      unfold yielded
      rw [hd']
      rfl
     have hr:=VJ R d
     split at h
     · rename_i b hb
       rw [hb] at hr
       have hv:=hr.bool
       have hlt:d<a.tmps.size:=by
        rcases Nat.lt_or_ge d a.tmps.size with hh | hh
        · exact hh
        · rw [Array.getD_eq_getD_getElem?,Array.getElem?_eq_none hh] at hv
          simp [undef] at hv
       have hg:a.tmps[d]?=some (.bool b):=by
        rw [Array.getD_eq_getD_getElem?,Array.getElem?_eq_getElem hlt,Option.getD_some] at hv
        rw [Array.getElem?_eq_getElem hlt,hv]
       rw [hg] at hy
       simp only [] at hy
       by_cases hbw:b=want
       · left
         have:=h.1 hbw
         rw [AR (by rw [hb,hbw]) (by simp)] at this
         exact ⟨by simp [Region.wanted,ho,hy,hbw],this⟩
       · right
         have hbn:b=!want:=by cases b <;> cases want <;> simp_all
         have:=h.2 hbn
         rw [AR (by rw [hb,hbn]) (by simp)] at this
         exact ⟨by simp [Region.wanted,ho,hy,hbn],this⟩
     · rename_i hb
       rw [hb] at hr
       right
       obtain ⟨vs,hv,hl⟩:=hr
       have hvs:vs=[]:=List.eq_nil_of_length_eq_zero hl.1.symm
       subst hvs
       have hn:(match a.tmps[d]? with | some (.bool b)=>some b | _=>none)=none:=by
        rw [Array.getD_eq_getD_getElem?] at hv
        cases hx:a.tmps[d]? with
        | none=>rfl
        | some v=>rw [hx,Option.getD_some] at hv;subst hv;rfl
       rw [hn] at hy
       exact ⟨by simp [Region.wanted,ho,hy],h⟩
     · exact h.elim
theorem wK {own:Nat→Bool}{ops:List Oper}{Qm:Exit→Act→World→Prop}(hD:∀ t,iN P t (D t)) (base ak:Nat→Prop) (w0:Wz) :
  ∀ (qN:List Oper) (k:Nat) (S:St) (ts:List Nat) (K:St→List Nat→Prop) (blk:Nat→Option Nat) (a:Act) (w:World),(∀ j,qN[j]?=ops[k+j]?)→ql P D own ops qN k S ts K→Rel base ak w0 S blk a w→
   (∀ S' ts' au a' w',K S' ts'→Rel base ak w0 S' au a' w'→Qm .normal a' w')→wpOpsIn (EO l) 0 P ops.toArray Qm (List.range' k qN.length) a w
 | [],k,S,ts,K,blk,a,w,_,h,R,hq=>hq S ts blk a w h R
 | o::qN,k,S,ts,K,blk,a,w,hl,h,R,hq=>by
  have h0:ops.toArray[k]?=some o:=by simpa using (hl 0).symm
  have hl':∀ j,qN[j]?=ops[k+1+j]?:=fun j=>by have:=hl (j+1);simpa [Nat.add_assoc,Nat.add_comm 1 j] using this
  simp only [List.length_cons,List.range'_succ,wpOpsIn,h0]
  unfold ql at h
  rcases wJ R h o rfl with ⟨hw,hx⟩ | ⟨hw,hy⟩
  · rw [if_pos hw]
    exact AQ l hD R hx fun r objs' t v w' au hK R' hr=>wK hD base ak w0 qN (k+1) _ _ K au _ w' hl' hK (R'.put hr o.dst) hq
  · rw [if_neg (by rw [hw];simp)]
    exact ⟨fun _ _=>trivial,wK hD base ak w0 qN (k+1) _ _ K blk _ w hl' hy (R.put (xR _ _ _ _) o.dst) hq⟩
theorem PW.region {id:Nat}{ops:List Oper}(own:Nat→Bool) (hD:∀ t,iN P t (D t)) (h:ql P D own ops ops 0 S [] fun S' _=>Q .normal S'):PW P l E (.region id ops.toArray false) Q S:=by
 intro base ak V hE blk a w ⟨w0,hV,R⟩
 refine wpIn_region ?_
 have:=wK (l:=l) (Qm:=fun e a' w'=>∃ S' au,Q e S'∧qP base ak V S' au a' w') hD base ak w0 ops 0 S [] _ blk a w (fun j=>by simp) h R (fun S' ts' au a' w' hK R'=>⟨S',au,hK,w0,hV,R'⟩)
 rw [List.range_eq_range']
 simpa using this
end Lp
