/-
  Part 6 of what the statement rests on: LpE4, LpE5, LpE6, LpTC1, LpTR, LpE7, LpE8, LpTC2, LpTB4, LpTD1, LpTF0, LpTF2, LpTE1, LpTE2, LpTE3, LpTF3, LpTF4, LpTF5, LpE9, LpRd, LpMA1, LpTie, LpRdA, LpRdY, LpRdT, LpJn. No condition.
-/
import Derived.Test.YtfgfjbcoeakonaaGreatDoorLp5
import Derived.Laws.IdiomStrings
import Derived.WalkKit
import Derived.Sort.Row
import Derived.Lib.LaidIn
import Derived.Lib.LaidU8T
import Derived.Deep.DeepHandedRow
import Derived.Deep.DeepWitnessRowRef
import Derived.ProofKit
import Derived.SizedLaws
import Derived.JoinedCond
import Derived.OpenShut
import Derived.JoinedOf

set_option linter.all false
set_option maxRecDepth 100000
namespace Lp
open Go Go.Proofs Go.RowKit
open Nat (reduceAdd reduceLeDiff reduceMul reduceSub)
open Int (reduceLE reduceToNat)
set_option maxHeartbeats 4000000
theorem GV (s:List UInt8):ah Tryz.prog 119 [.str s,.str [48]] [] (.str (Lib.trimLeftB s 48)) []:=by
 refine ah.oz ⟨_,Tryz.Tn.f161,by kernel_rfl,by kernel_rfl⟩ fun w vs ok hg hr=>?_
 obtain ⟨u,v,rfl,h,h'⟩:=U4 hr
 cases jO h
 cases jO h'
 refine (Any.strings_TrimLeft_one Tryz.Tn ⟨⟨s⟩⟩ 48 (by decide) w).mono ?_
 rintro e w' ⟨h1,rfl⟩
 exact ⟨_,h1,fun w ok=>.str _,.refl _ _⟩
theorem Er (s:List UInt8) (c:UInt8) (hc:c.toNat<128) (hs:s.length≤4611686018427387904):ah Tryz.prog 120 [.str s,.str [c]] [] (.str (Lib.trimRightB s c)) []:=by
 refine ah.oz ⟨_,Tryz.Tp.f162,by kernel_rfl,by kernel_rfl⟩ fun w vs ok hg hr=>?_
 obtain ⟨u,v,rfl,h,h'⟩:=U4 hr
 cases jO h
 cases jO h'
 refine (Any.strings_TrimRight_one Tryz.Tp ⟨⟨s⟩⟩ c hc w (by rw [Lib.size_eq];simp;omega)).mono ?_
 rintro e w' ⟨h1,rfl⟩
 exact ⟨_,h1,fun w ok=>.str _,.refl _ _⟩
def jV:dF:=fun args objs K=>match args with
 | [.str s,a1]=>a1=(.str [48])∧K (.str (Lib.trimLeftB s 48)) objs 0
 | _=>False
theorem Md:aD Tryz.prog 119 (jV):=by
 intro args objs K h
 unfold jV at h
 split at h
 · rename_i s a1
   obtain ⟨rfl,hk⟩:=h
   exact ⟨_,_,_,.pure _ rfl (GV s),hk⟩
 · exact h.elim
def iV (c:UInt8):dF:=fun args objs K=>match args with
 | [.str s,a1]=>a1=(.str [c])∧(c.toNat<128)∧(s.length≤4611686018427387904)∧K (.str (Lib.trimRightB s c)) objs 0
 | _=>False
theorem t_ (c:UInt8):aD Tryz.prog 120 (iV c):=by
 intro args objs K h
 unfold iV at h
 split at h
 · rename_i s a1
   obtain ⟨rfl,h1,h2,hk⟩:=h
   exact ⟨_,_,_,.pure _ rfl (Er s c h1 h2),hk⟩
 · exact h.elim
theorem X0:Builder.Extra Tryz.prog Tryz.DJ where
 sizeBuilder:=by kernel_rfl
 liesBuilder:=by kernel_rfl
 t5:=Tryz.wQ.t5
 a5:=Tryz.wQ.a5
 z5:=Tryz.wQ.z5
 v5:=Tryz.wQ.v5
 infoByte:=by kernel_rfl
 cellsByte:=by kernel_rfl
 sizeByte:=by kernel_rfl
 neB5:=by decide
theorem DV (c:UInt8):∀ n,Lib.repeatL [c] n=List.replicate n c
 | 0=>rfl
 | n+1=>by rw [Lib.repeatL,DV c n,List.replicate_succ];rfl
theorem Pf (c:UInt8) (n:Int) (h:0≤n∧n≤1000000000):ah Tryz.prog 104 [.str [c],.int .i64 n] [] (.str (List.replicate n.toNat c)) []:=by
 obtain ⟨n,rfl⟩:∃ k:Nat,n=k:=⟨n.toNat,by omega⟩
 refine ah.oz ⟨_,Tryz.wQ.f105,by kernel_rfl,by kernel_rfl⟩ fun w vs ok hg hr=>?_
 obtain ⟨u,v,rfl,h,h'⟩:=U4 hr
 cases jO h
 cases N8 h'
 refine (Any.strings_Repeat Tryz.wQ X0 ⟨⟨[c]⟩⟩ n w (by omega) (by rw [Lib.size_eq];simp;omega)).mono ?_
 rintro e w' ⟨h1,h2⟩
 refine ⟨_,h1,fun w ok=>?_,h2⟩
 have e1:(⟨⟨[c]⟩⟩:ByteArray).data.toList=[c]:=rfl
 rw [e1,DV]
 exact .str _
def l8 (c:UInt8):dF:=fun args objs K=>match args with
 | [a0,.int .i64 n]=>a0=(.str [c])∧(0≤n∧n≤1000000000)∧K (.str (List.replicate n.toNat c)) objs 0
 | _=>False
theorem zH (c:UInt8):aD Tryz.prog 104 (l8 c):=by
 intro args objs K h
 unfold l8 at h
 split at h
 · rename_i a0 n
   obtain ⟨rfl,h1,hk⟩:=h
   exact ⟨_,_,_,.pure _ rfl (Pf c n h1),hk⟩
 · exact h.elim
theorem aN.GX {P:Program}{D:TypeId→aG}{T:Know}{f:FuncId}{n t u:Nat}{ty:TypeId}{C:LC}{args:List PV}{r:PV}(h:aN P f n [.cell t ty,.tmp u] C) (d:Nat) (hD:∀ t,iH P t (D t)) (hT:FV P none sU T) (hm:P.follows .mixedOrders=true) (ht:t<n) (hu:u<n)
  (hw:∀ Q:Exit→St→Prop,(∀ l ob,Q .ret ⟨cO n l,ob⟩=eU (D ty) (jX l t) ob fun p _ _=>r=.bV [gH d 0 ob p,gH d 0 ob (jX l u)])→kr P D T C Q (bT args n)):ah P f args [] r []:=by
 refine h.pure d hD hT hm (by simp) (hw _ fun l ob=>?_)
 simp only [mh,iT,mV.2.1 n l t ht,mV.2.1 n l u hu,List.map_cons,List.map_nil,eO]
def dR (neg:Bool) (f:List UInt8) (e:Int):PV:=.bV [au (dM neg f e).1,.int .i64 (dM neg f e).2]
theorem mZ (s:List UInt8) (c:UInt8):(Lib.trimRightB s c).length≤s.length:=by
 unfold Lib.trimRightB
 rw [List.length_reverse]
 exact Nat.le_trans (List.dropWhile_suffix _).length_le (by rw [List.length_reverse];exact Nat.le_refl _)
theorem RN (s:List UInt8) (c:UInt8):(Lib.trimLeftB s c).length≤s.length:=(List.dropWhile_suffix _).length_le
theorem Vw (neg:Bool) (f:List UInt8) (e:Int) (hf:f.length≤1000000) (he:-1000000000≤e∧e≤1000000000):ah Tryz.prog 101 [.bool neg,.str f,.int .i64 e] [] (dR neg f e) []:=by
 refine QA.GX (T:=aO Tryz.prog [(118,dx),(119,jV),(120,iV 48),(121,iD)]) 0 hD (aj (af uK (af Md (af (t_ 48) (af yh ai))))) aT (by decide) (by decide) fun Q hQ=>?_
 have Zd:(48:UInt8).toNat<128:=by decide
 have hf':f.length≤4611686018427387904:=by omega
 have hlL:=RN f 48
 generalize hs:Lib.trimLeftB f 48=s at *
 have hlR:=mZ s 48
 generalize ht:Lib.trimRightB s 48=t at *
 cases h1:fH f
 · have hr:dR neg f e=.bV [au ⟨0,0,[],[],false,0⟩,.int .i64 4]:=by simp [dR,dM,h1,aW]
   (conv=>arg 4;cbv);simp(maxSteps:=400000)only[↓aR,aS,BEq.rfl,reduceIte,reduceCtorEq,Nat.reduceLT,reduceAdd,reduceSub,reduceMul,Nat.reduceBEq,reduceLeDiff,reduceToNat,reduceLE,hQ,↓dx,h1,hr,bf,bg]
   repeat' (first | omega | exact Zd | refine ⟨?_,?_⟩)
 by_cases h2:s=[]
 · have hr:dR neg f e=.bV [au ⟨3,0,[],[],false,0⟩,.int .i64 0]:=by simp [dR,dM,h1,hs,h2]
   have h2':(s=[])=True:=eq_true h2
   (conv=>arg 4;cbv);simp(maxSteps:=400000)only[↓aR,aS,BEq.rfl,reduceIte,reduceCtorEq,Nat.reduceLT,reduceAdd,reduceSub,reduceMul,Nat.reduceBEq,reduceLeDiff,reduceToNat,reduceLE,hQ,↓dx,↓jV,h1,hs,h2',hr,bf,bg]
   repeat' (first | omega | exact Zd | refine ⟨?_,?_⟩)
 have h2':(s=[])=False:=eq_false h2
 rcases tf (e < -100000000) with h3 | h3
 · have hr:dR neg f e=.bV [au ⟨0,0,[],[],false,0⟩,.int .i64 2]:=by simp [dR,dM,h1,hs,h2,of_eq_true h3,aW]
   (conv=>arg 4;cbv);simp(maxSteps:=400000)only[↓aR,aS,BEq.rfl,reduceIte,reduceCtorEq,Nat.reduceLT,reduceAdd,reduceSub,reduceMul,Nat.reduceBEq,reduceLeDiff,reduceToNat,reduceLE,hQ,↓dx,↓jV,h1,hs,h2',h3,hr,bf,bg]
   repeat' (first | omega | exact Zd | refine ⟨?_,?_⟩)
 rcases tf (100000000<e) with h4 | h4
 · have hr:dR neg f e=.bV [au ⟨0,0,[],[],false,0⟩,.int .i64 2]:=by simp [dR,dM,h1,hs,h2,of_eq_true h4,aW]
   (conv=>arg 4;cbv);simp(maxSteps:=400000)only[↓aR,aS,BEq.rfl,reduceIte,reduceCtorEq,Nat.reduceLT,reduceAdd,reduceSub,reduceMul,Nat.reduceBEq,reduceLeDiff,reduceToNat,reduceLE,hQ,↓dx,↓jV,h1,hs,h2',h3,h4,hr,bf,bg]
   repeat' (first | omega | exact Zd | refine ⟨?_,?_⟩)
 have h3':=of_eq_false h3
 have h4':=of_eq_false h4
 rcases tf (100<(t.length:Int)) with h5 | h5
 · have hr:dR neg f e=.bV [au ⟨0,0,[],[],false,0⟩,.int .i64 2]:=by
    have:100<t.length:=by have:=of_eq_true h5;omega
    simp [dR,dM,h1,hs,h2,h3',h4',ht,this,aW]
   (conv=>arg 4;cbv);simp(maxSteps:=400000)only[↓aR,aS,BEq.rfl,reduceIte,reduceCtorEq,Nat.reduceLT,reduceAdd,reduceSub,reduceMul,Nat.reduceBEq,reduceLeDiff,reduceToNat,reduceLE,hQ,↓dx,↓jV,↓iV,h1,hs,ht,h2',h3,h4,h5,hr,bf,bg]
   repeat' (first | omega | exact Zd | refine ⟨?_,?_⟩)
 have h5':¬ 100<t.length:=by have:=of_eq_false h5;omega
 have hpb:MP t.length (e+(s.length-t.length))=Bg t.length (e+(s.length-t.length)):=rfl
 cases h6:Bg t.length (e+(s.length-t.length))
 · have hr:dR neg f e=.bV [au ⟨0,0,[],[],false,0⟩,.int .i64 2]:=by
    simp [dR,dM,h1,hs,h2,h3',h4',ht,hpb,h6,aW]
   (conv=>arg 4;cbv);simp(maxSteps:=400000)only[↓aR,aS,BEq.rfl,reduceIte,reduceCtorEq,Nat.reduceLT,reduceAdd,reduceSub,reduceMul,Nat.reduceBEq,reduceLeDiff,reduceToNat,reduceLE,hQ,↓dx,↓jV,↓iV,↓iD,h1,hs,ht,h2',h3,h4,h5,h6,hr,bf,bg]
   repeat' (first | omega | exact Zd | refine ⟨?_,?_⟩)
 · have hr:dR neg f e=.bV [au ⟨3,0,[],t,neg,e+(s.length-t.length)⟩,.int .i64 0]:=by
    simp [dR,dM,h1,hs,h2,h3',h4',ht,hpb,h6,h5']
   (conv=>arg 4;cbv);simp(maxSteps:=400000)only[↓aR,aS,BEq.rfl,reduceIte,reduceCtorEq,Nat.reduceLT,reduceAdd,reduceSub,reduceMul,Nat.reduceBEq,reduceLeDiff,reduceToNat,reduceLE,hQ,↓dx,↓jV,↓iV,↓iD,h1,hs,ht,h2',h3,h4,h5,h6,hr,bf,bg]
   repeat' (first | omega | exact Zd | refine ⟨?_,?_⟩)
theorem Vx (neg:Bool) (f:List UInt8) (e:Int):(dM neg f e).1.s.length≤100:=by
 unfold dM
 split
 · simp [aW]
 split
 · simp
 split
 · simp [aW]
 split
 · simp [aW]
 · rename_i h
   have:=fun h'=>h (.inl h')
   simpa using this
def ug:dF:=fun args objs K=>match args with
 | [.bool neg,.str f,.int .i64 e]=>(f.length≤1000000)∧(-1000000000≤e∧e≤1000000000)∧K (dR neg f e) objs 0
 | _=>False
theorem RO:aD Tryz.prog 101 (ug):=by
 intro args objs K h
 unfold ug at h
 split at h
 · rename_i neg f e
   obtain ⟨h1,h2,hk⟩:=h
   exact ⟨_,_,_,.pure _ rfl (Vw neg f e h1 h2),hk⟩
 · exact h.elim
end Lp
set_option maxRecDepth 100000
namespace Lp
open Go Go.Proofs Go.RowKit
set_option maxHeartbeats 4000000
theorem J2 (c:UInt8) (h:c.toNat<128):(Utf8.encode (c.toNat:Int)).data.toList=[c]:=by
 have hv:Utf8.valid (c.toNat:Int)=true:=by
  simp only [Utf8.valid,Bool.or_eq_true,Bool.and_eq_true,decide_eq_true_eq]
  exact .inl ⟨by omega,by omega⟩
 simp only [Utf8.encode,hv,if_true,Int.toNat_natCast,if_pos h]
 show [UInt8.ofNat c.toNat]=[c]
 simp
theorem zI {s:List UInt8}{c:UInt8}(h:0<(Lib.trimRightB s c).length):∃ d,s[(Lib.trimRightB s c).length-1]?=some d∧d≠c:=by
 have acn:(s.reverse.dropWhile (·==c))≠[]:=by
  intro hh;simp [Lib.trimRightB,hh] at h
 obtain ⟨d,r,hr⟩:=List.exists_cons_of_ne_nil acn
 have hd:d≠c:=by
  have:=List.head_dropWhile_not (·==c) (l:=s.reverse) acn
  simp only [hr,List.head_cons] at this
  simpa using this
 have hpre:Lib.trimRightB s c <+:s:=by
  unfold Lib.trimRightB
  have:=List.dropWhile_suffix (l:=s.reverse) (·==c)
  rwa [← List.reverse_prefix,List.reverse_reverse] at this
 have ht:Lib.trimRightB s c=r.reverse++[d]:=by simp [Lib.trimRightB,hr]
 rw [ht] at hpre ⊢
 obtain ⟨q,hq⟩:=hpre
 refine ⟨d,?_,hd⟩
 rw [← hq,List.getElem?_append_left (by simp)]
 simp
theorem wrap32 {c:UInt8}:IntKind.i32.wrap (c.toNat:Int)=(c.toNat:Int):=by
 have h:=c.toNat_lt
 have hm:(c.toNat:Int) % 4294967296=c.toNat:=by omega
 unfold IntKind.wrap
 simp [IntKind.bits,IntKind.signed,hm]
 omega
theorem Ze (s:List UInt8) (hf:fH s=true) (hs:s.length≤1000000):ah Tryz.prog 102 [.str s] [] (.str (MQ s)) []:=by
 refine UJ.aZ (T:=aO Tryz.prog [(120,(iV 57)),(104,(l8 48))]) 0 hD (aj (af (t_ 57) (af (zH 48) ai))) aT (by decide) fun Q hQ=>?_
 have hle:=mZ s 57
 have c57:(57:UInt8).toNat<128:=by decide
 by_cases h0:(Lib.trimRightB s 57).length=0
 · have h0':(((Lib.trimRightB s 57).length:Int)=0)=True:=eq_true (by omega)
   have hr:MQ s=49::List.replicate s.length 48:=by simp [MQ,h0]
   (conv=>arg 4;cbv);simp(maxSteps:=400000)only[↓aR,aS,BEq.rfl,reduceIte,reduceCtorEq,Nat.reduceLT,Nat.reduceAdd,Nat.reduceSub,Nat.reduceMul,Nat.reduceBEq,Nat.reduceLeDiff,Int.reduceToNat,Int.reduceLE,hQ,↓iV,↓l8,h0',hr]
   have e:((s.length:Int)-((Lib.trimRightB s 57).length:Int)).toNat=s.length:=by omega
   rw [e]
   exact ⟨c57,by omega,by omega,by omega,by omega,rfl⟩
 · have h0':(((Lib.trimRightB s 57).length:Int)=0)=False:=eq_false (by omega)
   obtain ⟨d,hd,hne⟩:=zI (s:=s) (c:=57) (by omega)
   have hdf:=pO hf hd
   have hr:MQ s=s.take ((Lib.trimRightB s 57).length-1)++(d+1)::List.replicate (s.length-(Lib.trimRightB s 57).length) 48:=by simp [MQ,h0,List.getD_eq_getElem?_getD,hd]
   generalize hn:(Lib.trimRightB s 57).length=n at *
   have e1:((n:Int)-1).toNat=n-1:=by omega
   have e2:((s.length:Int)-(n:Int)).toNat=s.length-n:=by omega
   have adn:d.toNat≤56:=by
    have:d.toNat≠57:=fun h=>hne (UInt8.toNat_inj.1 h)
    omega
   have e3:((d+1).toNat:Int)=(d.toNat:Int)+1:=by
    rw [UInt8.toNat_add]
    have:(1:UInt8).toNat=1:=rfl
    omega
   have e4:IntKind.i32.wrap ((d.toNat:Int)+1)=((d+1).toNat:Int):=by rw [← e3];exact wrap32
   have e5:=J2 (d+1) (by omega)
   (conv=>arg 4;cbv);simp(maxSteps:=400000)only[↓aR,aS,BEq.rfl,reduceIte,reduceCtorEq,Nat.reduceLT,Nat.reduceAdd,Nat.reduceSub,Nat.reduceMul,Nat.reduceBEq,Nat.reduceLeDiff,Int.reduceToNat,Int.reduceLE,hQ,↓iV,↓l8,hn,h0',hr,e1,e2,hd,jJ,mD,e4,e5,List.drop_zero,List.length_take,List.append_assoc,List.cons_append,List.nil_append]
   repeat' (first | omega | exact c57 | exact trivial | refine ⟨?_,?_⟩)
def TD:dF:=fun args objs K=>match args with
 | [.str s]=>(fH s=true)∧(s.length≤1000000)∧K (.str (MQ s)) objs 0
 | _=>False
theorem X3:aD Tryz.prog 102 (TD):=by
 intro args objs K h
 unfold TD at h
 split at h
 · rename_i s
   obtain ⟨h1,h2,hk⟩:=h
   exact ⟨_,_,_,.pure _ rfl (Ze s h1 h2),hk⟩
 · exact h.elim
theorem Vy (s:List UInt8) (hf:fH s=true) (h0:0<(Lib.trimRightB s 48).length) (hs:s.length≤1000000):ah Tryz.prog 103 [.str s] [] (.str (nE s)) []:=by
 refine ND.aZ (T:=aO Tryz.prog [(120,(iV 48)),(104,(l8 57))]) 0 hD (aj (af (t_ 48) (af (zH 57) ai))) aT (by decide) fun Q hQ=>?_
 have hle:=mZ s 48
 have Zd:(48:UInt8).toNat<128:=by decide
 obtain ⟨d,hd,hne⟩:=zI (s:=s) (c:=48) h0
 have hdf:=pO hf hd
 have hr:nE s=s.take ((Lib.trimRightB s 48).length-1)++(d-1)::List.replicate (s.length-(Lib.trimRightB s 48).length) 57:=by simp [nE,List.getD_eq_getElem?_getD,hd]
 generalize hn:(Lib.trimRightB s 48).length=n at *
 have e1:((n:Int)-1).toNat=n-1:=by omega
 have e2:((s.length:Int)-(n:Int)).toNat=s.length-n:=by omega
 have ado:49≤d.toNat:=by
  have:d.toNat≠48:=fun h=>hne (UInt8.toNat_inj.1 h)
  omega
 have e3:((d-1).toNat:Int)=(d.toNat:Int)-1:=by
  rw [UInt8.toNat_sub_of_le _ _ (by rw [UInt8.le_iff_toNat_le];have:(1:UInt8).toNat=1:=rfl;omega)]
  have:(1:UInt8).toNat=1:=rfl
  omega
 have e4:IntKind.i32.wrap ((d.toNat:Int)-1)=((d-1).toNat:Int):=by rw [← e3];exact wrap32
 have e5:=J2 (d-1) (by omega)
 (conv=>arg 4;cbv);simp(maxSteps:=400000)only[↓aR,aS,BEq.rfl,reduceIte,reduceCtorEq,Nat.reduceLT,Nat.reduceAdd,Nat.reduceSub,Nat.reduceMul,Nat.reduceBEq,Nat.reduceLeDiff,Int.reduceToNat,Int.reduceLE,hQ,↓iV,↓l8,hn,hr,e1,e2,hd,jJ,mD,e4,e5,List.drop_zero,List.length_take,List.append_assoc,List.cons_append,List.nil_append]
 repeat' (first | omega | exact Zd | exact trivial | refine ⟨?_,?_⟩)
def Bw:dF:=fun args objs K=>match args with
 | [.str s]=>(fH s=true)∧(0<(Lib.trimRightB s 48).length)∧(s.length≤1000000)∧K (.str (nE s)) objs 0
 | _=>False
theorem RP:aD Tryz.prog 103 (Bw):=by
 intro args objs K h
 unfold Bw at h
 split at h
 · rename_i s
   obtain ⟨h1,h2,h3,hk⟩:=h
   exact ⟨_,_,_,.pure _ rfl (Vy s h1 h2 h3),hk⟩
 · exact h.elim
end Lp
set_option maxRecDepth 100000
namespace Lp
open Go Go.Proofs Go.RowKit
open List (length_append length_replicate)
open Nat (reduceAdd reduceLeDiff reduceMul reduceSub)
set_option maxHeartbeats 4000000
structure Me (n:Nd):Prop where
 len:n.s.length≤100
 fH:fH n.s=true
 lo:-1000≤n.e
 hi:n.e≤1000
 last:n.s≠[]→0<(Lib.trimRightB n.s 48).length
def dL (n:Nd) (above:Bool):PV:=.bV [au (cZ n above).1,.bool (cZ n above).2]
theorem DW (a b:List UInt8) (ha:fH a=true) (hb:fH b=true):fH (a++b)=true:=by
 unfold fH at *
 simp only [List.all_append,ha,hb,Bool.and_self]
theorem Pg (n:Nat):fH (List.replicate n 48)=true:=by
 unfold fH
 rw [List.all_eq_true]
 intro x hx
 rw [(List.mem_replicate.1 hx).2]
 decide
theorem J3 (s:List UInt8) (n:Nat):Lib.trimRightB (s++List.replicate n 48) 48=Lib.trimRightB s 48:=by
 have:∀ (k:Nat) (l:List UInt8),List.dropWhile (·==(48:UInt8)) (List.replicate k 48++l)=List.dropWhile (·==(48:UInt8)) l:=by
  intro k l
  induction k with
  | zero=>rfl
  | succ k ih=>rw [List.replicate_succ,List.cons_append,List.dropWhile_cons];simp [ih]
 unfold Lib.trimRightB
 rw [List.reverse_append,List.reverse_replicate,this]
theorem Zf (s:List UInt8):(MQ s).length≤s.length+1:=by
 unfold MQ
 have:=mZ s 57
 split
 · simp
 · simp only [length_append,List.length_take,List.length_cons,length_replicate];omega
theorem J4 (s:List UInt8):(nE s).length≤s.length+1:=by
 unfold nE
 have:=mZ s 48
 simp only [length_append,List.length_take,List.length_cons,length_replicate];omega
theorem Zg (above:Bool):dR (!above) [49] (-1000)=.bV [au ⟨3,0,[],[49],!above,-1000⟩,.int .i64 0]:=by
 cases above <;> rfl
theorem Ph (n:Nd) (above:Bool) (hn:Me n):ah Tryz.prog 75 [au n,.bool above] [] (dL n above) []:=by
 refine Ij.GX (T:=aO Tryz.prog [(101,ug),(104,l8 48),(102,TD),(103,Bw)]) 0 hD (aj (af RO (af (zH 48) (af X3 (af RP ai))))) aT (by decide) (by decide) fun Q hQ=>?_
 by_cases hs:n.s=[]
 · have hr:dL n above=.bV [au ⟨3,0,[],[49],!above,-1000⟩,.bool true]:=by simp [dL,cZ,hs]
   have b0:=Zg above
   (conv=>arg 4;cbv);simp(maxSteps:=400000)only[↓aR,aS,BEq.rfl,reduceIte,reduceCtorEq,Nat.reduceLT,reduceAdd,reduceSub,reduceMul,Nat.reduceBEq,reduceLeDiff,Int.reduceToNat,Int.reduceLE,hQ,↓ug,b0,hs,hr,bf,bg,bN]
 have hs':(n.s=[])=False:=eq_false hs
 have l1:=hn.len
 have l2:=hn.lo
 have l3:=hn.hi
 have hE:∀ T:Int,jv n above=max (T-100) (-1000)→(if (-1000:Int) > T-100 then (-1000:Int) else T-100)=jv n above:=fun T h=>by rw [h];split <;> omega
 have l4:(0:Int)<n.s.length:=by
  cases h:n.s with
  | nil=>exact absurd h hs
  | cons x r=>simp
 have hEb:-1000≤jv n above∧jv n above≤1000∧jv n above≤n.e:=by
  unfold jv
  split <;> omega
 generalize S9:jv n above=E at *
 have Es:lH n E=n.s++List.replicate (n.e-E).toNat 48:=rfl
 have hpl:(lH n E).length≤3000:=by rw [Es,length_append,length_replicate];omega
 have hpf:fH (lH n E)=true:=DW _ _ hn.fH (Pg _)
 have hpt:0<(Lib.trimRightB (lH n E) 48).length:=by rw [Es,J3];exact hn.last hs
 have hul:=Zf (lH n E)
 have hdl:=J4 (lH n E)
 have hpl':n.s.length+(n.e-E).toNat≤3000:=by have:=hpl;rw [Es,length_append,length_replicate] at this;exact this
 have hpp:(lH n E).length=n.s.length+(n.e-E).toNat:=by rw [Es,length_append,length_replicate]
 by_cases hg:n.neg=above
 · have hg':(n.neg=above)=True:=eq_true hg
   have hr:dL n above=.bV [au (dM n.neg (nE (lH n E)) E).1,.bool (decide ((dM n.neg (nE (lH n E)) E).2=0))]:=by
    simp only [dL,cZ,if_neg hs,if_pos hg,S9]
   by_cases h49:n.s=[49]
   · have Mf:(n.s=[49])=True:=eq_true h49
     have hEe:=hE (n.s.length+n.e-1) (by rw [← S9];unfold jv;rw [if_pos ⟨hg,h49⟩])
     (conv=>arg 4;cbv);simp(maxSteps:=400000)only[↓aR,aS,BEq.rfl,reduceIte,reduceCtorEq,Nat.reduceLT,reduceAdd,reduceSub,reduceMul,Nat.reduceBEq,reduceLeDiff,Int.reduceToNat,Int.reduceLE,hQ,↓ug,↓l8,↓Bw,hs',hg',Mf,bf,bg,bN,hEe,← Es,hr,dR]
     repeat' (first | omega | exact hpf | exact hpt | exact (by decide) | refine ⟨?_,?_⟩)
   · have Mf:(n.s=[49])=False:=eq_false h49
     have hEe:=hE (n.s.length+n.e) (by rw [← S9];unfold jv;rw [if_neg fun h=>h49 h.2])
     (conv=>arg 4;cbv);simp(maxSteps:=400000)only[↓aR,aS,BEq.rfl,reduceIte,reduceCtorEq,Nat.reduceLT,reduceAdd,reduceSub,reduceMul,Nat.reduceBEq,reduceLeDiff,Int.reduceToNat,Int.reduceLE,hQ,↓ug,↓l8,↓Bw,hs',hg',Mf,bf,bg,bN,hEe,← Es,hr,dR]
     repeat' (first | omega | exact hpf | exact hpt | exact (by decide) | refine ⟨?_,?_⟩)
 · have hg':(n.neg=above)=False:=eq_false hg
   have hr:dL n above=.bV [au (dM n.neg (MQ (lH n E)) E).1,.bool (decide ((dM n.neg (MQ (lH n E)) E).2=0))]:=by
    simp only [dL,cZ,if_neg hs,if_neg hg,S9]
   have hEe:=hE (n.s.length+n.e) (by rw [← S9];unfold jv;rw [if_neg fun h=>hg h.1])
   (conv=>arg 4;cbv);simp(maxSteps:=400000)only[↓aR,aS,BEq.rfl,reduceIte,reduceCtorEq,Nat.reduceLT,reduceAdd,reduceSub,reduceMul,Nat.reduceBEq,reduceLeDiff,Int.reduceToNat,Int.reduceLE,hQ,↓ug,↓l8,↓TD,hs',hg',bf,bg,bN,hEe,← Es,hr,dR]
   repeat' (first | omega | exact hpf | exact hpt | exact (by decide) | refine ⟨?_,?_⟩)
def m_:dF:=fun args objs K=>match args with
 | [a0,.bool above]=>f_ au a0 (HK.mk:HK fun n=>(Me n)∧K (dL n above) objs 0)
 | _=>False
theorem Mg:aD Tryz.prog 75 (m_):=by
 intro args objs K h
 unfold m_ at h
 split at h
 · rename_i a0 above
   obtain ⟨n,rfl,h1,hk⟩:=h
   exact ⟨_,_,_,.pure _ rfl (Ph n above h1),hk⟩
 · exact h.elim
end Lp
set_option maxRecDepth 100000
namespace Lp
open Go Go.Proofs Go.RowKit
open List (length_cons map_nil)
open Nat (reduceAdd reduceLeDiff reduceMul reduceSub)
open Int (reduceLE reduceToNat)
set_option maxHeartbeats 4000000
theorem RQ (s:List UInt8):Lib.trimLeftB (48::s) 48=Lib.trimLeftB s 48:=rfl
theorem RS {c:UInt8}{s:List UInt8}(h:c≠48):Lib.trimLeftB (c::s) 48=c::s:=by
 unfold Lib.trimLeftB
 have:(c==(48:UInt8))=false:=by simpa using h
 simp [this]
theorem RU (s:List UInt8):Lib.trimRightB (s++[48]) 48=Lib.trimRightB s 48:=by
 unfold Lib.trimRightB
 rw [List.reverse_append];rfl
theorem RV {c:UInt8}{s:List UInt8}(h:c≠48):Lib.trimRightB (s++[c]) 48=s++[c]:=by
 unfold Lib.trimRightB
 have:(c==(48:UInt8))=false:=by simpa using h
 rw [List.reverse_append]
 simp [this]
theorem RX {c:UInt8}{s:List UInt8}(h:c≠48):Lib.trimRightB (c::s) 48≠[]:=by
 unfold Lib.trimRightB
 have hc:(c==(48:UInt8))=false:=by simpa using h
 rw [List.reverse_cons,List.dropWhile_append]
 split
 · simp [hc]
 · simp
def uM (t:List UInt8) (e:Int):Bool:=decide (100<t.length) || decide (e < -1000) || decide (1000<(t.length:Int)+e)
theorem RY {neg:Bool}{f s t:List UInt8}{e e':Int}(h1:fH f=true) (h2:Lib.trimLeftB f 48=s) (h3:s≠[]) (h4:¬ (e < -100000000∨100000000<e)) (h5:Lib.trimRightB s 48=t) (h6:e'+t.length=e+s.length) :
  dM neg f e=if uM t e' then (aW,2) else (⟨3,0,[],t,neg,e'⟩,0):=by
 have h4a:¬ e < -100000000:=fun h=>h4 (.inl h)
 have h4b:¬ 100000000<e:=fun h=>h4 (.inr h)
 have he:e+((s.length:Int)-(t.length:Int))=e':=by omega
 unfold dM
 rw [if_neg (by simp [h1]),h2,if_neg h3,if_neg h4,h5,he]
 by_cases hb:uM t e'=true
 · rw [if_pos hb,if_pos]
   simp only [uM,Bool.or_eq_true,decide_eq_true_eq] at hb
   rcases hb with (hb | hb) | hb
   · exact .inl hb
   · right;simp [MP];omega
   · right;simp [MP];omega
 · rw [if_neg hb,if_neg]
   simp only [uM,Bool.or_eq_true,decide_eq_true_eq,not_or] at hb
   rintro (h | h)
   · exact hb.1.1 h
   · simp only [MP,Bool.and_eq_false_iff,decide_eq_false_iff_not] at h;omega
theorem Mh (neg:Bool) (f:List UInt8) (e:Int) (hf:f.length≤1000000) (he:-1000000000≤e∧e≤1000000000):ah Tryz.prog 114 [.bool neg,.str f,.int .i64 e] [] (dR neg f e) []:=by
 refine Bt.GX (T:=aO Tryz.prog [(88,ow)]) 0 hD (aj (af F8 ai)) aT (by decide) (by decide) fun Q hQ=>?_
 cases h1:fH f
 · have hr:dR neg f e=.bV [au ⟨0,0,[],[],false,0⟩,.int .i64 4]:=by simp [dR,dM,h1,aW]
   (conv=>arg 4;cbv);simp(maxSteps:=400000)only[↓aR,aS,BEq.rfl,reduceIte,reduceCtorEq,Nat.reduceLT,reduceAdd,reduceSub,reduceMul,Nat.reduceBEq,reduceLeDiff,reduceToNat,reduceLE,hQ,↓ow,h1,hr,bf,bg]
   repeat' (first | omega | exact rfl | refine ⟨?_,?_⟩)
 (conv=>arg 4;cbv);simp(maxSteps:=400000)only[↓aR,aS,BEq.rfl,reduceIte,reduceCtorEq,Nat.reduceLT,reduceAdd,reduceSub,reduceMul,Nat.reduceBEq,reduceLeDiff,reduceToNat,reduceLE,hQ,↓ow,h1,bf,bg]
 refine ⟨by omega,?_⟩
 refine aF (fun m S=>∃ s:List UInt8,s.length=m∧m≤f.length∧Lib.trimLeftB f 48=Lib.trimLeftB s 48∧S=⟨cO 64 [(0,.bool neg),(1,.str s),(2,.int .i64 e),(6,.bL 0 1 0 0)],[⟨42,6,[au ⟨0,0,[],[],false,0⟩],true,1⟩]⟩) f.length ⟨f,rfl,Nat.le_refl _,rfl,?_⟩ ?_
 · simp only [bI,keepR,reduceAdd,kT,Nat.reduceBEq,map_nil]
 rintro m S ⟨s,hsl,hmf,htl,rfl⟩
 cases s with
 | nil=>
  have z0:((0:Int)<(([]:List UInt8).length:Int))=False:=eq_false (by simp)
  have hr:dR neg f e=.bV [au ⟨3,0,[],[],false,0⟩,.int .i64 0]:=by
   have:Lib.trimLeftB f 48=[]:=by rw [htl];rfl
   simp [dR,dM,h1,this]
  have he0:(([]:List UInt8)=[])=True:=eq_true rfl
  simp(maxSteps:=400000)only[↓aR,aS,BEq.rfl,reduceIte,reduceCtorEq,Nat.reduceLT,reduceAdd,reduceSub,reduceMul,Nat.reduceBEq,reduceLeDiff,reduceToNat,reduceLE,hQ,z0,he0,hr,bf,bg,List.length_nil]
  repeat' (first | omega | exact rfl | refine ⟨?_,?_⟩)
 | cons c s=>
  simp only [length_cons] at hsl
  have zl:((0:Int)<((c::s).length:Int))=True:=eq_true (by simp only [length_cons];omega)
  have hg0:(c::s)[0]?=some c:=rfl
  have hdr:(c::s).drop 1=s:=rfl
  have b48:(c.toNat:Int)=48↔c=48:=lI (k:=48) (by omega)
  by_cases hc:(c.toNat:Int)=48
  · have hcc:=b48.1 hc
    subst hcc
    rw [RQ] at htl
    have hwl:((48:UInt8)::s).length=m:=by simp only [length_cons];omega
    generalize hw:(48:UInt8)::s=w at *
    simp(maxSteps:=400000)only[↓aR,aS,BEq.rfl,reduceIte,reduceCtorEq,Nat.reduceLT,reduceAdd,reduceSub,reduceMul,Nat.reduceBEq,reduceLeDiff,reduceToNat,reduceLE,hQ,zl,hg0,hc,List.take_length,hdr]
    repeat' (first | omega | exact ⟨m-1,by omega,s,by omega,by omega,htl,rfl⟩ | exact rfl | refine ⟨?_,?_⟩)
  have hc':=eq_false hc
  have hcn:c≠48:=fun h=>hc (b48.2 h)
  rw [RS hcn] at htl
  have hne:(c::s=[])=False:=eq_false (by simp)
  have hth:=RX (s:=s) hcn
  have hwl:(c::s).length=m:=by simp only [length_cons];omega
  generalize hw:c::s=w at *
  have hwne:w≠[]:=fun h=>hne.mp h
  rcases tf (e < -100000000) with h3 | h3
  · have hr:dR neg f e=.bV [au ⟨0,0,[],[],false,0⟩,.int .i64 2]:=by simp [dR,dM,h1,htl,hwne,of_eq_true h3,aW]
    simp(maxSteps:=400000)only[↓aR,aS,BEq.rfl,reduceIte,reduceCtorEq,Nat.reduceLT,reduceAdd,reduceSub,reduceMul,Nat.reduceBEq,reduceLeDiff,reduceToNat,reduceLE,hQ,zl,hg0,hc',hne,h3,hr,bf,bg]
    repeat' (first | omega | exact rfl | refine ⟨?_,?_⟩)
  rcases tf (100000000<e) with h4 | h4
  · have hr:dR neg f e=.bV [au ⟨0,0,[],[],false,0⟩,.int .i64 2]:=by simp [dR,dM,h1,htl,hwne,of_eq_true h4,aW]
    simp(maxSteps:=400000)only[↓aR,aS,BEq.rfl,reduceIte,reduceCtorEq,Nat.reduceLT,reduceAdd,reduceSub,reduceMul,Nat.reduceBEq,reduceLeDiff,reduceToNat,reduceLE,hQ,zl,hg0,hc',hne,h3,h4,hr,bf,bg]
    repeat' (first | omega | exact rfl | refine ⟨?_,?_⟩)
  have h3':=of_eq_false h3
  have h4':=of_eq_false h4
  have hrg:¬ (e < -100000000∨100000000<e):=by omega
  simp(maxSteps:=400000)only[↓aR,aS,BEq.rfl,reduceIte,reduceCtorEq,Nat.reduceLT,reduceAdd,reduceSub,reduceMul,Nat.reduceBEq,reduceLeDiff,reduceToNat,reduceLE,hQ,zl,hg0,hc',hne,h3,h4]
  refine aF (fun m' S=>∃ (u:List UInt8) (e':Int),u.length=m'∧m'≤m∧Lib.trimRightB w 48=Lib.trimRightB u 48∧e'+u.length=e+w.length∧S=⟨cO 64 [(0,.bool neg),(1,.str u),(2,.int .i64 e'),(6,.bL 0 1 0 0)],[⟨42,6,[au ⟨0,0,[],[],false,0⟩],true,1⟩]⟩) m ⟨w,e,hwl,Nat.le_refl _,rfl,rfl,?_⟩ ?_
  · simp only [bI,keepR,reduceAdd,kT,Nat.reduceBEq,map_nil]
  rintro m' S ⟨u,e',hul,hum,htr,hee,rfl⟩
  have hun:u≠[]:=fun h=>by rw [htr,h] at hth;exact hth rfl
  have hup:0<u.length:=List.length_pos_iff.2 hun
  have hlt:u.length-1<u.length:=by omega
  have hgl:=List.getElem?_eq_getElem hlt
  have hsplit:u=u.take (u.length-1)++[u[u.length-1]]:=by
   conv=>lhs;rw [← List.take_append_drop (u.length-1) u]
   rw [List.drop_eq_getElem_cons hlt,List.drop_eq_nil_of_le (by omega)]
  generalize u[u.length-1]=d at hgl hsplit
  have tl:((u.length:Int)-1).toNat=u.length-1:=by omega
  have zl1:(0≤(u.length:Int)-1)=True:=eq_true (by omega)
  have ll1:((u.length:Int)-1<(u.length:Int))=True:=eq_true (by omega)
  have i1:(-9223372036854775808≤(u.length:Int)-1∧(u.length:Int)-1≤9223372036854775807)=True:=eq_true ⟨by omega,by omega⟩
  have d48:(d.toNat:Int)=48↔d=48:=lI (k:=48) (by omega)
  by_cases hd:(d.toNat:Int)=48
  · have hdd:=d48.1 hd
    have ac9:Lib.trimRightB w 48=Lib.trimRightB (u.take (u.length-1)) 48:=by
     have hs2:u=u.take (u.length-1)++[48]:=by rw [← hdd];exact hsplit
     rw [htr]
     conv=>lhs;rw [hs2]
     exact RU _
    have adp:(u.take (u.length-1)).length=u.length-1:=by rw [List.length_take];omega
    simp(maxSteps:=400000)only[↓aR,aS,BEq.rfl,reduceIte,reduceCtorEq,Nat.reduceLT,reduceAdd,reduceSub,reduceMul,Nat.reduceBEq,reduceLeDiff,reduceToNat,reduceLE,hQ,tl,zl1,ll1,i1,hgl,hd]
    repeat' (first | omega | exact ⟨m'-1,by omega,u.take (u.length-1),e'+1,by omega,by omega,ac9,by omega,rfl⟩ | exact rfl | refine ⟨?_,?_⟩)
  have hd':=eq_false hd
  have htu:Lib.trimRightB w 48=u:=by rw [htr,hsplit];exact RV fun h=>hd (d48.2 h)
  have hmk:=RY (neg:=neg) h1 htl hwne hrg htu hee
  rcases tf (100<(u.length:Int)) with g1 | g1
  · have hr:dR neg f e=.bV [au ⟨0,0,[],[],false,0⟩,.int .i64 2]:=by
     have:uM u e'=true:=by have:=of_eq_true g1;simp [uM];omega
     rw [dR,hmk,this];rfl
    simp(maxSteps:=400000)only[↓aR,aS,BEq.rfl,reduceIte,reduceCtorEq,Nat.reduceLT,reduceAdd,reduceSub,reduceMul,Nat.reduceBEq,reduceLeDiff,reduceToNat,reduceLE,hQ,tl,zl1,ll1,i1,hgl,hd',g1,hr,bf,bg]
    repeat' (first | omega | exact rfl | refine ⟨?_,?_⟩)
  rcases tf (e' < -1000) with g2 | g2
  · have hr:dR neg f e=.bV [au ⟨0,0,[],[],false,0⟩,.int .i64 2]:=by
     have:uM u e'=true:=by have:=of_eq_true g2;simp [uM];omega
     rw [dR,hmk,this];rfl
    simp(maxSteps:=400000)only[↓aR,aS,BEq.rfl,reduceIte,reduceCtorEq,Nat.reduceLT,reduceAdd,reduceSub,reduceMul,Nat.reduceBEq,reduceLeDiff,reduceToNat,reduceLE,hQ,tl,zl1,ll1,i1,hgl,hd',g1,g2,hr,bf,bg]
    repeat' (first | omega | exact rfl | refine ⟨?_,?_⟩)
  rcases tf (1000<(u.length:Int)+e') with g3 | g3
  · have hr:dR neg f e=.bV [au ⟨0,0,[],[],false,0⟩,.int .i64 2]:=by
     have:uM u e'=true:=by have:=of_eq_true g3;simp [uM];omega
     rw [dR,hmk,this];rfl
    simp(maxSteps:=400000)only[↓aR,aS,BEq.rfl,reduceIte,reduceCtorEq,Nat.reduceLT,reduceAdd,reduceSub,reduceMul,Nat.reduceBEq,reduceLeDiff,reduceToNat,reduceLE,hQ,tl,zl1,ll1,i1,hgl,hd',g1,g2,g3,hr,bf,bg]
    repeat' (first | omega | exact rfl | refine ⟨?_,?_⟩)
  · have hr:dR neg f e=.bV [au ⟨3,0,[],u,neg,e'⟩,.int .i64 0]:=by
     have:uM u e'=false:=by
      have g1':=of_eq_false g1
      have g2':=of_eq_false g2
      have g3':=of_eq_false g3
      simp only [uM,Bool.or_eq_false_iff,decide_eq_false_iff_not];omega
     rw [dR,hmk,this];rfl
    simp(maxSteps:=400000)only[↓aR,aS,BEq.rfl,reduceIte,reduceCtorEq,Nat.reduceLT,reduceAdd,reduceSub,reduceMul,Nat.reduceBEq,reduceLeDiff,reduceToNat,reduceLE,hQ,tl,zl1,ll1,i1,hgl,hd',g1,g2,g3,hr,bf,bg]
    repeat' (first | omega | exact rfl | refine ⟨?_,?_⟩)
def l9:dF:=fun args objs K=>match args with
 | [.bool neg,.str f,.int .i64 e]=>(f.length≤1000000)∧(-1000000000≤e∧e≤1000000000)∧K (dR neg f e) objs 0
 | _=>False
theorem Pj:aD Tryz.prog 114 (l9):=by
 intro args objs K h
 unfold l9 at h
 split at h
 · rename_i neg f e
   obtain ⟨h1,h2,hk⟩:=h
   exact ⟨_,_,_,.pure _ rfl (Mh neg f e h1 h2),hk⟩
 · exact h.elim
theorem Pk (n:Nd) (e:Int) (h1:-2000≤e∧e≤n.e∧n.e≤2000) (h2:n.s.length≤100000):ah Tryz.prog 111 [au n,.int .i64 e] [] (.str (lH n e)) []:=by
 refine xO.aZ (T:=aO Tryz.prog []) 0 hD (aj ai) aT (by decide) fun Q hQ=>?_
 (conv=>arg 4;cbv);simp(maxSteps:=400000)only[↓aR,aS,BEq.rfl,reduceIte,reduceCtorEq,Nat.reduceLT,reduceAdd,reduceSub,reduceMul,Nat.reduceBEq,reduceLeDiff,reduceToNat,reduceLE,hQ]
 refine aF (fun m S=>∃ k:Nat,(k:Int)+m=n.e-e∧S=⟨cO 19 [(2,.bL 0 1 0 0),(5,.str (n.s++List.replicate k 48)),(6,.int .i64 (e+k))],[⟨42,6,[au n],true,1⟩]⟩) (n.e-e).toNat ⟨0,by omega,?_⟩ ?_
 · simp only [bI,keepR,reduceAdd,kT,Nat.reduceBEq,map_nil]
   simp
 rintro m S ⟨k,hkm,rfl⟩
 have hl:(n.s++List.replicate k 48).length=n.s.length+k:=by rw [List.length_append,List.length_replicate]
 rcases Nat.eq_zero_or_pos m with h0 | h0
 · have hlt:(e+(k:Int)<n.e)=False:=eq_false (by omega)
   have hr:lH n e=n.s++List.replicate k 48:=by unfold lH;congr 2;omega
   simp(maxSteps:=400000)only[↓aR,aS,BEq.rfl,reduceIte,reduceCtorEq,Nat.reduceLT,reduceAdd,reduceSub,reduceMul,Nat.reduceBEq,reduceLeDiff,reduceToNat,reduceLE,hQ,hlt,hr]
 · have hlt:(e+(k:Int)<n.e)=True:=eq_true (by omega)
   have hs:n.s++List.replicate k 48++[48]=n.s++List.replicate (k+1) 48:=by rw [List.append_assoc,List.replicate_succ']
   simp(maxSteps:=400000)only[↓aR,aS,BEq.rfl,reduceIte,reduceCtorEq,Nat.reduceLT,reduceAdd,reduceSub,reduceMul,Nat.reduceBEq,reduceLeDiff,reduceToNat,reduceLE,hQ,hlt]
   repeat' (first | omega | exact ⟨m-1,by omega,k+1,by omega,by rw [hs,Int.natCast_add,Int.natCast_one,Int.add_assoc]⟩ | exact rfl | refine ⟨?_,?_⟩)
def jW:dF:=fun args objs K=>match args with
 | [a0,.int .i64 e]=>f_ au a0 (HK.mk:HK fun n=>(-2000≤e∧e≤n.e∧n.e≤2000)∧(n.s.length≤100000)∧K (.str (lH n e)) objs 0)
 | _=>False
theorem Mi:aD Tryz.prog 111 (jW):=by
 intro args objs K h
 unfold jW at h
 split at h
 · rename_i a0 e
   obtain ⟨n,rfl,h1,h2,hk⟩:=h
   exact ⟨_,_,_,.pure _ rfl (Pk n e h1 h2),hk⟩
 · exact h.elim
end Lp
set_option maxRecDepth 100000
namespace Lp
open Go Go.Proofs Go.Sort Go.RowKit
open List (length_cons length_take)
def iOf:Value→Int
 | .int _ q=>q
 | _=>0
def j_ (b:UInt8):Value:=.int .u8 (b.toNat:Int)
set_option maxRecDepth 1000000 in
set_option maxHeartbeats 4000000 in
theorem Vz (s:List UInt8) (hlen:s.length≤1000000) (w:World) (cap:Nat) (W1:World) (g n:Nat) (d0:Array UInt8) (hn:d0.size=n+1) (h0:∃ j,j≤n∧d0[j]!≠57) (hn1:n≤1000000)
 (J5:(convert 9 142 (.string (⟨#[48]⟩++⟨⟨s⟩⟩))).run Tryz.prog w=.ok (.slice (some ⟨g,0,none⟩) (n+1) cap) W1)
 (hH:Holds j_ W1 g 0 d0)
 (hback:∀ dk:Array UInt8,dk.size=n+1→(convert 142 9 (.slice (some ⟨g,0,none⟩) (n+1) cap)).run Tryz.prog (putRow j_ W1 g 0 dk)=.ok (.string ⟨dk⟩) (putRow j_ W1 g 0 dk)) :
 Calls Tryz.prog 112 #[.string ⟨⟨s⟩⟩] w fun e w'=>∃ (k:Nat) (dk:Array UInt8),k≤n∧dk.size=n+1∧(∀ j,j≤k→dk[j]! =d0[j]!)∧(∀ j,k<j→j≤n→dk[j]! =48∧d0[j]! =57)∧d0[k]!≠57∧e=.returned (.string ⟨dk.setIfInBounds k (dk[k]!+1)⟩)∧w'=putRow j_ W1 g 0 (dk.setIfInBounds k (dk[k]!+1)):=by
 go_enter Tryz.func112,Tryz.ntmps112
 go_wp2
 rw [← putRow_self j_ W1 g 0 d0 hH]
 go_loopw [4] (fun i wr=>∃ (k:Nat) (dk:Array UInt8),k≤n∧i=.int .i64 k∧dk.size=n+1∧(∀ j,j≤k→dk[j]! =d0[j]!)∧(∀ j,k<j→j≤n→dk[j]! =48∧d0[j]! =57)∧wr=putRow j_ W1 g 0 dk) (fun i _=>(iOf i).toNat)
 case atStart=>exact ⟨n,d0,Nat.le_refl _,by simp,hn,fun _ _=>rfl,fun j h1 h2=>by omega,rfl⟩
 case round=>
  obtain ⟨k,dk,hk,rfl,hdk,hr1,hr2,rfl⟩:=hrel
  have hc:=cell?_putRow j_ W1 g 0 d0 dk hH (by omega) k (by omega)
  have hf:(putRow j_ W1 g 0 dk).frozen? ⟨g,0+k,none⟩=false:=by rw [frozen?_putRow];exact (hH k (by omega)).2
  rw [Nat.zero_add] at hc hf
  have hs1:=putRow_set j_ W1 g 0 dk k 48 (by omega)
  have hs2:=putRow_set j_ W1 g 0 dk k (dk[k]!+1) (by omega)
  rw [Nat.zero_add] at hs1 hs2
  have hb2:=hback (dk.setIfInBounds k (dk[k]!+1)) (by simpa using hdk)
  obtain ⟨x,hx⟩:∃ x,dk[k]! =x:=⟨_,rfl⟩
  rw [hx] at hc hb2 hs2
  have eS:(x.toNat:Int)=57↔x=57:=⟨fun h=>UInt8.toNat_inj.1 (by have:(57:UInt8).toNat=57:=rfl;omega),fun h=>by rw [h];rfl⟩
  have hx1:((x+1).toNat:Int)=((x.toNat:Int)+1) % 256:=by
   have h1:(1:UInt8).toNat=1:=rfl
   have h2:=x.toNat_lt
   rw [UInt8.toNat_add];omega
  unfold j_ at hc hs1 hs2 hb2
  rw [hx1] at hs2
  have hP:(((48:UInt8).toNat:Nat):Int)=48:=rfl
  rw [hP] at hs1
  generalize hwq:putRow (fun b:UInt8=>Value.int .u8 (b.toNat:Int)) W1 g 0 dk=wq at *
  have abb:putRow j_ W1 g 0 dk=wq:=hwq
  rw [abb] at hf ⊢
  generalize hX:(x.toNat:Int)=X at *
  by_cases hS:X=57
  · subst hS
    have hxS:=eS.1 rfl
    have hk1:1≤k:=by
     rcases Nat.eq_zero_or_pos k with h | h
     · subst h
       obtain ⟨j,hj1,hj2⟩:=h0
       rcases Nat.eq_zero_or_pos j with h' | h'
       · subst h'
         exact absurd ((hr1 0 (Nat.le_refl _)).symm.trans (hx.trans hxS)) hj2
       · exact absurd (hr2 j h' hj1).2 hj2
     · exact h
    go_wp2
    refine ⟨⟨k-1,dk.setIfInBounds k 48,by omega,by congr 1;omega,by simpa using hdk,fun j hj=>?_,fun j h1 h2=>?_,rfl⟩,by simp [iOf];omega⟩
    · rw [getElem!_set_other dk k j 48 (by omega)];exact hr1 j (by omega)
    · by_cases hjk:j=k
      · subst hjk
        rw [getElem!_set_same dk j 48 (by omega),← hr1 j (Nat.le_refl _),hx]
        exact ⟨rfl,hxS⟩
      · rw [getElem!_set_other dk k j 48 hjk];exact hr2 j (by omega) h2
  · have hSb:(X==57)=false:=by simpa using hS
    go_wp2
    go_ret
    refine ⟨k,dk,hk,hdk,hr1,hr2,?_,by rw [hx];rfl,?_⟩
    · rw [← hr1 k (Nat.le_refl _),hx];intro h;exact hS (eS.2 h)
    · rw [hx];rfl
set_option maxRecDepth 1000000 in
set_option maxHeartbeats 4000000 in
theorem VA (s:List UInt8) (hlen:s.length≤1000000) (w:World) (cap:Nat) (W1:World) (g n:Nat) (d0:Array UInt8) (hn:d0.size=n+1) (h0:∃ j,j≤n∧d0[j]!≠48) (hn1:n≤1000000)
 (J5:(convert 9 142 (.string ⟨⟨s⟩⟩)).run Tryz.prog w=.ok (.slice (some ⟨g,0,none⟩) (n+1) cap) W1)
 (hH:Holds j_ W1 g 0 d0)
 (hback:∀ dk:Array UInt8,dk.size=n+1→(convert 142 9 (.slice (some ⟨g,0,none⟩) (n+1) cap)).run Tryz.prog (putRow j_ W1 g 0 dk)=.ok (.string ⟨dk⟩) (putRow j_ W1 g 0 dk)) :
 Calls Tryz.prog 113 #[.string ⟨⟨s⟩⟩] w fun e w'=>∃ (k:Nat) (dk:Array UInt8),k≤n∧dk.size=n+1∧(∀ j,j≤k→dk[j]! =d0[j]!)∧(∀ j,k<j→j≤n→dk[j]! =57∧d0[j]! =48)∧d0[k]!≠48∧e=.returned (.string ⟨dk.setIfInBounds k (dk[k]!-1)⟩)∧w'=putRow j_ W1 g 0 (dk.setIfInBounds k (dk[k]!-1)):=by
 go_enter Tryz.func113,Tryz.ntmps113
 go_wp2
 rw [← putRow_self j_ W1 g 0 d0 hH]
 go_loopw [4] (fun i wr=>∃ (k:Nat) (dk:Array UInt8),k≤n∧i=.int .i64 k∧dk.size=n+1∧(∀ j,j≤k→dk[j]! =d0[j]!)∧(∀ j,k<j→j≤n→dk[j]! =57∧d0[j]! =48)∧wr=putRow j_ W1 g 0 dk) (fun i _=>(iOf i).toNat)
 case atStart=>exact ⟨n,d0,Nat.le_refl _,by simp,hn,fun _ _=>rfl,fun j h1 h2=>by omega,rfl⟩
 case round=>
  obtain ⟨k,dk,hk,rfl,hdk,hr1,hr2,rfl⟩:=hrel
  have hc:=cell?_putRow j_ W1 g 0 d0 dk hH (by omega) k (by omega)
  have hf:(putRow j_ W1 g 0 dk).frozen? ⟨g,0+k,none⟩=false:=by rw [frozen?_putRow];exact (hH k (by omega)).2
  rw [Nat.zero_add] at hc hf
  have hs1:=putRow_set j_ W1 g 0 dk k 57 (by omega)
  have hs2:=putRow_set j_ W1 g 0 dk k (dk[k]!-1) (by omega)
  rw [Nat.zero_add] at hs1 hs2
  have hb2:=hback (dk.setIfInBounds k (dk[k]!-1)) (by simpa using hdk)
  obtain ⟨x,hx⟩:∃ x,dk[k]! =x:=⟨_,rfl⟩
  rw [hx] at hc hb2 hs2
  have eS:(x.toNat:Int)=48↔x=48:=⟨fun h=>UInt8.toNat_inj.1 (by have:(48:UInt8).toNat=48:=rfl;omega),fun h=>by rw [h];rfl⟩
  have hx1:((x-1).toNat:Int)=((x.toNat:Int)-1) % 256:=by
   have h1:(1:UInt8).toNat=1:=rfl
   have h2:=x.toNat_lt
   rw [UInt8.toNat_sub];omega
  unfold j_ at hc hs1 hs2 hb2
  rw [hx1] at hs2
  have hP:(((57:UInt8).toNat:Nat):Int)=57:=rfl
  rw [hP] at hs1
  generalize hwq:putRow (fun b:UInt8=>Value.int .u8 (b.toNat:Int)) W1 g 0 dk=wq at *
  have abb:putRow j_ W1 g 0 dk=wq:=hwq
  rw [abb] at hf ⊢
  generalize hX:(x.toNat:Int)=X at *
  by_cases hS:X=48
  · subst hS
    have hxS:=eS.1 rfl
    have hk1:1≤k:=by
     rcases Nat.eq_zero_or_pos k with h | h
     · subst h
       obtain ⟨j,hj1,hj2⟩:=h0
       rcases Nat.eq_zero_or_pos j with h' | h'
       · subst h'
         exact absurd ((hr1 0 (Nat.le_refl _)).symm.trans (hx.trans hxS)) hj2
       · exact absurd (hr2 j h' hj1).2 hj2
     · exact h
    go_wp2
    refine ⟨⟨k-1,dk.setIfInBounds k 57,by omega,by congr 1;omega,by simpa using hdk,fun j hj=>?_,fun j h1 h2=>?_,rfl⟩,by simp [iOf];omega⟩
    · rw [getElem!_set_other dk k j 57 (by omega)];exact hr1 j (by omega)
    · by_cases hjk:j=k
      · subst hjk
        rw [getElem!_set_same dk j 57 (by omega),← hr1 j (Nat.le_refl _),hx]
        exact ⟨rfl,hxS⟩
      · rw [getElem!_set_other dk k j 57 hjk];exact hr2 j (by omega) h2
  · have hSb:(X==48)=false:=by simpa using hS
    go_wp2
    go_ret
    refine ⟨k,dk,hk,hdk,hr1,hr2,?_,by rw [hx];rfl,?_⟩
    · rw [← hr1 k (Nat.le_refl _),hx];intro h;exact hS (eS.2 h)
    · rw [hx];rfl
theorem below_putRow {B:Nat}{a w:World}(h:Below B a w){g:Nat}(hg:B≤g) (d:Array UInt8):Below B a (putRow j_ w g 0 d):=
 h.trans ⟨rfl,rfl,rfl,by simp,fun k hk=>by simp only [putRow,mapBlock,Array.getElem?_modify];rw [if_neg (by omega)]⟩
theorem Pm (w:World) (l:List UInt8):∃ (cap:Nat) (W1:World),(convert 9 142 (.string ⟨⟨l⟩⟩)).run Tryz.prog w=.ok (.slice (some ⟨w.heap.size,0,none⟩) l.length cap) W1∧Holds j_ W1 w.heap.size 0 ⟨l⟩∧Below w.heap.size w W1∧
  ∀ dk:Array UInt8,dk.size=l.length→(convert 142 9 (.slice (some ⟨w.heap.size,0,none⟩) l.length cap)).run Tryz.prog (putRow j_ W1 w.heap.size 0 dk)=.ok (.string ⟨dk⟩) (putRow j_ W1 w.heap.size 0 dk):=by
 have us:Tryz.prog.underlying 9=some .string:=by kernel_rfl
 have ub:Tryz.prog.underlying 142=some (.slice 5):=by kernel_rfl
 have u8:Tryz.prog.underlying 5=some (.int .u8):=by kernel_rfl
 have J5:=run_bytes_of_string (P:=Tryz.prog) w 9 142 5 ⟨⟨l⟩⟩ us ub u8
 have hsz:(ByteArray.mk ⟨l⟩).size=l.length:=by simp [ByteArray.size]
 rw [hsz] at J5
 generalize hcap:grownCap w l.length 0 5=cap at J5
 generalize hC:bytesRow ⟨⟨l⟩⟩ cap=C at J5
 have hCl:l.length≤C.size:=by rw [← hC];simp [bytesRow]
 have hH:Holds j_ (w.drew.alloc (.cells C 5 (C.size,C.size+1))) w.heap.size 0 ⟨l⟩:=by
  intro j hj
  have hj':j<l.length:=hj
  have h1:=World.cell?_alloc_mark w.drew C 5 (C.size,C.size+1) (0+j)
  have h2:=World.frozen?_alloc_mark w.drew C 5 C.size (C.size+1) (0+j)
  have hh:w.drew.heap.size=w.heap.size:=rfl
  rw [hh] at h1 h2
  refine ⟨h1.trans ?_,h2.trans ?_⟩
  · rw [Nat.zero_add,← hC,bytesRow_at ⟨⟨l⟩⟩ cap j hj]
    simp [j_,hj']
  · have:decide (C.size≤0+j)=false:=decide_eq_false (by omega)
    rw [this];rfl
 refine ⟨cap,_,J5,hH,(Below.refl _ _).drew.alloc (Nat.le_refl _) _,fun dk hdk=>?_⟩
 have aco:=holds_putRow j_ _ w.heap.size 0 ⟨l⟩ dk hH hdk
 have:=run_convert_bytes_back (P:=Tryz.prog) (putRow j_ (w.drew.alloc (.cells C 5 (C.size,C.size+1))) w.heap.size 0 dk) 142 9 5 ⟨w.heap.size,0,none⟩ cap dk.toList ub u8 us (fun j hj=>by
  have hj':j<dk.size:=by simpa using hj
  have:=(aco j hj').1
  rw [add_lit,this,j_]
  simp [hj'])
 have hl:dk.toList.length=l.length:=by simpa using hdk
 rw [hl] at this
 simpa using this
theorem Pn {b:List UInt8}{c:UInt8}{k:Nat}(hk:k<b.length) (h1:b[k]?≠some c) (h2:∀ j,k<j→j<b.length→b[j]?=some c):(Lib.trimRightB b c).length=k+1:=by
 have hb:b=b.take k++[b[k]]++List.replicate (b.length-(k+1)) c:=by
  apply List.ext_getElem?
  intro j
  rcases Nat.lt_trichotomy j k with h | h | h
  · rw [List.append_assoc,List.getElem?_append_left (by rw [length_take];omega),List.getElem?_take,if_pos h]
  · subst h
    rw [List.getElem?_append_left (by simp;omega),List.getElem?_append_right (by rw [length_take];omega),List.getElem?_eq_getElem hk]
    simp [Nat.min_eq_left (Nat.le_of_lt hk)] <;> omega
  · have hl:(b.take k++[b[k]]).length=k+1:=by simp;omega
    rw [List.getElem?_append_right (by omega),hl,List.getElem?_replicate]
    rcases Nat.lt_or_ge j b.length with g | g
    · rw [if_pos (by omega),h2 j h g]
    · rw [if_neg (by omega),List.getElem?_eq_none g]
 have hne:b[k]≠c:=fun e=>h1 (by rw [List.getElem?_eq_getElem hk,e])
 have Es:∀ (n:Nat) (l:List UInt8),List.dropWhile (·==c) (List.replicate n c++l)=List.dropWhile (·==c) l:=by
  intro n l
  induction n with
  | zero=>rfl
  | succ n ih=>rw [List.replicate_succ,List.cons_append,List.dropWhile_cons];simp [ih]
 unfold Lib.trimRightB
 rw [hb,List.reverse_append,List.reverse_replicate,Es,List.reverse_append]
 have:(b[k]==c)=false:=by simpa using hne
 simp only [List.reverse_cons,List.reverse_nil,List.nil_append,List.cons_append,List.dropWhile_cons,this,Bool.false_eq_true,if_false,List.length_append,List.length_reverse,length_cons,List.length_nil,length_take]
 omega
def X4 (b:List UInt8):List UInt8:=b.take ((Lib.trimRightB b 57).length-1)++(b.getD ((Lib.trimRightB b 57).length-1) 0+1)::List.replicate (b.length-(Lib.trimRightB b 57).length) 48
def qC (s:List UInt8):List UInt8:=X4 (48::s)
theorem Po {b:List UInt8}{dk:Array UInt8}{k:Nat}{x p:UInt8}(hdk:dk.size=b.length) (hk:k<b.length) (h1:∀ j,j≤k→dk[j]! =(⟨b⟩:Array UInt8)[j]!) (h2:∀ j,k<j→j<b.length→dk[j]! =p) :
  dk.setIfInBounds k x=(b.take k++x::List.replicate (b.length-(k+1)) p).toArray:=by
 apply Array.ext_getElem?
 intro j
 rw [Array.getElem?_setIfInBounds,hdk]
 have hg:∀ (i:Nat) (_:i<dk.size),dk[i]?=some dk[i]!:=fun i hi=>by rw [getElem!_pos dk i hi];exact Array.getElem?_eq_getElem hi
 have hR:(b.take k++x::List.replicate (b.length-(k+1)) p).toArray[j]?=(b.take k++x::List.replicate (b.length-(k+1)) p)[j]?:=List.getElem?_toArray
 rw [hR]
 rcases Nat.lt_trichotomy j k with h | h | h
 · rw [if_neg (by omega),hg j (by omega),h1 j (by omega),List.getElem?_append_left (by rw [length_take];omega),List.getElem?_take,if_pos h,getElem!_pos (⟨b⟩:Array UInt8) j (by simp;omega),List.getElem?_eq_getElem (by omega)]
   rfl
 · subst h
   rw [if_pos rfl,if_pos hk,List.getElem?_append_right (by rw [length_take];omega)]
   simp [Nat.min_eq_left (Nat.le_of_lt hk)]
 · rw [if_neg (by omega)]
   have hl:(b.take k).length=k:=by rw [length_take];omega
   rw [List.getElem?_append_right (by omega),hl,show j-k=(j-k-1)+1 by omega,List.getElem?_cons_succ,List.getElem?_replicate]
   rcases Nat.lt_or_ge j b.length with g | g
   · rw [if_pos (by omega),hg j (by omega),h2 j h g]
   · rw [if_neg (by omega),Array.getElem?_eq_none (by omega)]
theorem uh {b:List UInt8}{j:Nat}(h:j<b.length):b[j]?=some ((⟨b⟩:Array UInt8)[j]!):=by
 rw [getElem!_pos (⟨b⟩:Array UInt8) j (by simpa using h),List.getElem?_eq_getElem h];rfl
theorem VB (s:List UInt8) (hs:s.length≤1000000):ah Tryz.prog 112 [.str s] [] (.str (qC s)) []:=by
 refine ah.oz ⟨_,Tryz.func112,by kernel_rfl,by kernel_rfl⟩ fun w vs ok hg hr=>?_
 obtain ⟨u,rfl,h⟩:=Y2 hr
 cases jO h
 obtain ⟨cap,W1,h1,h2,h3,h4⟩:=Pm w (48::s)
 have hB:(⟨#[48]⟩++⟨⟨s⟩⟩:ByteArray)=⟨⟨48::s⟩⟩:=by
  apply ByteArray.ext
  rw [ByteArray.data_append]
  apply Array.ext'
  simp
 refine (Vz s hs w cap W1 w.heap.size s.length ⟨48::s⟩ (by simp) ⟨0,Nat.zero_le _,by rw [show (⟨48::s⟩:Array UInt8)[0]! =48 from rfl];decide⟩ hs (by rw [hB];exact h1) h2 h4).mono ?_
 rintro e w' ⟨k,dk,k1,k2,k3,k4,k5,rfl,rfl⟩
 have kl:k<(48::s).length:=by simp only [length_cons];omega
 have ht:=Pn (b:=48::s) (c:=57) kl (by rw [uh kl];exact fun e=>k5 (Option.some.inj e)) (fun j h1 h2=>by
  rw [uh h2,(k4 j h1 (by simp only [length_cons] at h2;omega)).2])
 have hrow:=Po (b:=48::s) (x:=dk[k]!+1) (p:=48) (by rw [k2];rfl) kl k3 (fun j h1 h2=>(k4 j h1 (by simp only [length_cons] at h2;omega)).1)
 have hres:(48::s).take k++(dk[k]!+1)::List.replicate ((48::s).length-(k+1)) 48=qC s:=by
  rw [qC,X4,ht,Nat.add_sub_cancel,List.getD_eq_getElem?_getD,uh kl,k3 k (Nat.le_refl _)];rfl
 rw [hres] at hrow
 exact ⟨_,rfl,fun w ok=>by rw [hrow];exact .str _,below_putRow h3 (Nat.le_refl _) _⟩
theorem VD (s:List UInt8) (h0:0<(Lib.trimRightB s 48).length) (hs:s.length≤1000000):ah Tryz.prog 113 [.str s] [] (.str (nE s)) []:=by
 refine ah.oz ⟨_,Tryz.func113,by kernel_rfl,by kernel_rfl⟩ fun w vs ok hg hr=>?_
 obtain ⟨u,rfl,h⟩:=Y2 hr
 cases jO h
 obtain ⟨cap,W1,h1,h2,h3,h4⟩:=Pm w s
 obtain ⟨d,hd,hne⟩:=zI h0
 have hdl:=(List.getElem?_eq_some_iff.1 hd).1
 obtain ⟨n,hn⟩:∃ n,s.length=n+1:=⟨s.length-1,by omega⟩
 rw [hn] at h1 h4
 refine (VA s hs w cap W1 w.heap.size n ⟨s⟩ hn ⟨(Lib.trimRightB s 48).length-1,by omega,by
  rw [uh hdl] at hd;rw [Option.some.inj hd];exact hne⟩ (by omega) h1 h2 h4).mono ?_
 rintro e w' ⟨k,dk,k1,k2,k3,k4,k5,rfl,rfl⟩
 have kl:k<s.length:=by omega
 have ht:=Pn (b:=s) (c:=48) kl (by rw [uh kl];exact fun e=>k5 (Option.some.inj e)) (fun j h1 h2=>by
  rw [uh h2,(k4 j h1 (by omega)).2])
 have hrow:=Po (b:=s) (x:=dk[k]!-1) (p:=57) (by rw [k2,hn]) kl k3 (fun j h1 h2=>(k4 j h1 (by omega)).1)
 have hres:s.take k++(dk[k]!-1)::List.replicate (s.length-(k+1)) 57=nE s:=by
  rw [nE,ht,Nat.add_sub_cancel,List.getD_eq_getElem?_getD,uh kl,k3 k (Nat.le_refl _)];rfl
 rw [hres] at hrow
 exact ⟨_,rfl,fun w ok=>by rw [hrow];exact .str _,below_putRow h3 (Nat.le_refl _) _⟩
def Bz:dF:=fun args objs K=>match args with
 | [.str s]=>(s.length≤1000000)∧K (.str (qC s)) objs 0
 | _=>False
theorem RZ:aD Tryz.prog 112 (Bz):=by
 intro args objs K h
 unfold Bz at h
 split at h
 · rename_i s
   obtain ⟨h1,hk⟩:=h
   exact ⟨_,_,_,.pure _ rfl (VB s h1),hk⟩
 · exact h.elim
def uj:dF:=fun args objs K=>match args with
 | [.str s]=>(0<(Lib.trimRightB s 48).length)∧(s.length≤1000000)∧K (.str (nE s)) objs 0
 | _=>False
theorem R7:aD Tryz.prog 113 (uj):=by
 intro args objs K h
 unfold uj at h
 split at h
 · rename_i s
   obtain ⟨h1,h2,hk⟩:=h
   exact ⟨_,_,_,.pure _ rfl (VD s h1 h2),hk⟩
 · exact h.elim
theorem VE (s:List UInt8):(qC s).length≤s.length+2:=by
 unfold qC X4
 have:=mZ (48::s) 57
 simp only [List.length_append,length_take,length_cons,List.length_replicate] at *;omega
theorem R8 (neg:Bool) (x:List UInt8) (e:Int):dM neg (48::x) e=dM neg x e:=by
 have h1:fH (48::x)=fH x:=by simp [fH]
 have h2:Lib.trimLeftB (48::x) 48=Lib.trimLeftB x 48:=rfl
 unfold dM
 rw [h1,h2]
theorem R9 (neg:Bool) (s:List UInt8) (e:Int):dM neg (qC s) e=dM neg (MQ s) e:=by
 have hrev:Lib.trimRightB (48::s) 57=if Lib.trimRightB s 57=[] then [48] else 48::Lib.trimRightB s 57:=by
  unfold Lib.trimRightB
  rw [List.reverse_cons]
  cases h:s.reverse.dropWhile (·==(57:UInt8)) with
  | nil=>
   have:(s.reverse++[48]).dropWhile (·==(57:UInt8))=[48]:=by
    rw [List.dropWhile_append,h];rfl
   rw [this];rfl
  | cons a t=>
   have:(s.reverse++[48]).dropWhile (·==(57:UInt8))=(a::t)++[48]:=by
    rw [List.dropWhile_append,h];rfl
   rw [this]
   simp
 by_cases h:Lib.trimRightB s 57=[]
 · rw [if_pos h] at hrev
   have:qC s=MQ s:=by
    rw [qC,X4,hrev,MQ,h];rfl
   rw [this]
 · rw [if_neg h] at hrev
   have hl:0<(Lib.trimRightB s 57).length:=List.length_pos_iff.2 h
   have:qC s=48::MQ s:=by
    rw [qC,X4,hrev,MQ,if_neg (by omega)]
    obtain ⟨n,hn⟩:∃ n,(Lib.trimRightB s 57).length=n+1:=⟨_,(Nat.succ_pred_eq_of_pos hl).symm⟩
    simp [hn]
   rw [this,R8]
end Lp
set_option maxRecDepth 100000
namespace Lp
open Go Go.Proofs Go.RowKit
open List (append_assoc append_nil cons_append length_append length_cons length_map length_nil map_nil nil_append take_length)
open Nat (le_succ lt_irrefl lt_or_ge reduceAdd reduceLeDiff reduceMul reduceSub)
open Int (reduceLE reduceToNat)
set_option maxHeartbeats 8000000
theorem ac_:uI bP:=by intro d n o x;cases d <;> rfl
theorem acp (l:List lG):eY 1 0 [⟨54,1,[bP l],true,1⟩] (.bL 0 1 0 0)=.addr (bP l):=by
 simp only [eY,Nat.not_lt_zero,if_false,fM,List.getElem?_cons_zero,Nat.zero_le,decide_true,Bool.and_self,BEq.rfl,if_true]
 rw [ac_]
theorem Et (l:List lG):ah Tryz.prog 50 [bP l] [] (.fn 74 [] [.addr (bP l)]) []:=by
 refine Ao.aZ (T:=aO Tryz.prog []) 0 hD (aj ai) aT (by decide) fun Q hQ=>?_
 (conv=>arg 4;cbv);simp(maxSteps:=400000)only[↓aR,aS,BEq.rfl,reduceIte,reduceCtorEq,Nat.reduceLT,reduceAdd,reduceSub,reduceMul,Nat.reduceBEq,reduceLeDiff,reduceToNat,reduceLE,hQ]
 refine aQ _ (Weak.freeze 1 0 (Nat.zero_le _) _) ?_
 simp(maxSteps:=400000)only[↓aR,aS,BEq.rfl,reduceIte,reduceCtorEq,Nat.reduceLT,reduceAdd,reduceSub,reduceMul,Nat.reduceBEq,reduceLeDiff,reduceToNat,reduceLE,hQ,acp]
theorem abd (O:List Obj) :
  (∀ x X,(O++x::X)[O.length]?=some x)∧(∀ x y X,(O++x::y::X)[O.length+1]?=some y)∧(∀ x y z X,(O++x::y::z::X)[O.length+2]?=some z)∧
  (∀ x z X,(O++x::X).set O.length z=O++z::X)∧(∀ x y z X,(O++x::y::X).set (O.length+1) z=O++x::z::X)∧(∀ x y z u X,(O++x::y::z::X).set (O.length+2) u=O++x::y::u::X):=by
 refine ⟨fun x X=>?_,fun x y X=>?_,fun x y z X=>?_,fun x z X=>?_,fun x y z X=>?_,fun x y z u X=>?_⟩
 · rw [List.getElem?_append_right (Nat.le_refl _)];simp
 · rw [List.getElem?_append_right (by omega)];simp
 · rw [List.getElem?_append_right (by omega)];simp
 · rw [List.set_append_right _ _ (Nat.le_refl _)];simp
 · rw [List.set_append_right _ _ (by omega)];simp
 · rw [List.set_append_right _ _ (by omega)];simp
theorem TF:PV.uW (.agg ⟨[.int .i64 0,.int .i64 0,.int .i64 0,.string ⟨⟨[]⟩⟩,.string ⟨⟨[]⟩⟩,.bool false,.int .i64 0]⟩)=dK ⟨0,⟨0,0,[],[],false,0⟩⟩:=rfl
def rZ (xs:List Nd) (ver:Nat):Obj:=⟨42,6,xs.map au,true,ver⟩
def BA (a:lG):List Nd:=if a.c.kind=3 then a.c::((if (cZ a.c true).2 then [(cZ a.c true).1] else [])++if (cZ a.c false).2 then [(cZ a.c false).1] else []) else []
def BB (a:lG):List Nd:=if a.c.kind=4 then [a.c,⟨4,0,[],a.c.s++[0],false,0⟩] else []
theorem um:∀ l,jw l=(l.map BA).flatten
 | []=>rfl
 | a::l=>by simp only [jw,List.map_cons,List.flatten_cons,um l];rfl
theorem uo:∀ l,kY l=(l.map BB).flatten
 | []=>rfl
 | a::l=>by simp only [kY,List.map_cons,List.flatten_cons,uo l];rfl
theorem GY {l:List lG}{i:Nat}{a:lG}(h:l[i]?=some a):jw (l.take (i+1))=jw (l.take i)++BA a:=by
 rw [um,um,List.take_add_one,h];simp
theorem GZ {l:List lG}{i:Nat}{a:lG}(h:l[i]?=some a):kY (l.take (i+1))=kY (l.take i)++BB a:=by
 rw [uo,uo,List.take_add_one,h];simp
theorem r9:∀ l:List lG,(jw l).length≤3*l.length
 | []=>by simp [jw]
 | a::l=>by
  have:=r9 l
  simp only [jw,length_append,length_cons]
  split
  · simp only [length_cons,length_append]
    split <;> split <;> simp only [length_cons,length_nil] <;> omega
  · simp only [length_nil];omega
theorem xk:∀ l:List lG,(kY l).length≤2*l.length
 | []=>by simp [kY]
 | a::l=>by
  have:=xk l
  simp only [kY,length_append,length_cons]
  split
  · simp only [length_cons,length_nil];omega
  · simp only [length_nil];omega
def BD:List Nd:=[⟨0,0,[],[],false,0⟩,⟨1,0,[],[],false,0⟩,⟨2,0,[],[],false,0⟩,⟨3,0,[],[],false,0⟩]
def EX (a:lG) (b:Bool):List Nd:=if (cZ a.c b).2 then [(cZ a.c b).1] else []
theorem C8 {a:lG}(h:a.c.kind=3):BA a=[a.c]++EX a true++EX a false:=by
 rw [BA,if_pos h];simp [EX]
theorem uN (xs:List Nd) (n:Nd):List.map au xs++[au n]=List.map au (xs++[n]):=by simp
theorem aar (xs:List Nd) (n m:Nd):List.map au xs++[au n,au m]=List.map au (xs++[n,m]):=by simp
theorem Eu (n:Nd):Nd.mk n.kind n.many n.name n.s n.neg n.e=n:=rfl
theorem Pp (xs:List Nd) (ver:Nat):Obj.mk 42 6 (List.map au xs) true ver=rZ xs ver:=rfl
theorem Mj:(∀ xs v,(rZ xs v).live=true)∧(∀ xs v,(rZ xs v).ver=v)∧(∀ xs v,(rZ xs v).sz=6)∧(∀ xs v,(rZ xs v).ty=42)∧(∀ xs v,(rZ xs v).xs=List.map au xs):=
 ⟨fun _ _=>rfl,fun _ _=>rfl,fun _ _=>rfl,fun _ _=>rfl,fun _ _=>rfl⟩
theorem Zh {O:List Obj}(h:jq O) (xs:List Nd) (ver:Nat):jq (O++[rZ xs ver]):=by
 intro o ho x hx c hc
 rw [length_append]
 rcases List.mem_append.1 ho with ho | ho
 · have:=h o ho x hx c hc
   exact FM (Nat.le_add_right _ _) this
 · rw [List.mem_singleton] at ho;subst ho
   obtain ⟨n,_,rfl⟩:=List.mem_map.1 hx
   simp only [au,PV.cells,List.mem_cons,List.not_mem_nil,or_false] at hc
   rcases hc with rfl | rfl | rfl | rfl | rfl | rfl <;> rfl
theorem acr {O:List Obj}(h:jq O) :
  (∀ d xs ver X,List.map (fO d (O.length+1) (O++rZ xs ver::X)) (List.take (O.length+1) (O++rZ xs ver::X))=O++[rZ xs ver])∧
  (∀ d X ver,eY d (O.length+1) X (.aX O.length ver)=.aX O.length ver)∧
  (∀ x (a:lG),eY 1 (O.length+1) (O++[x,⟨87,7,[dK a],true,1⟩]) (.bL (O.length+1) 1 0 0)=.addr (dK a)):=by
 refine ⟨fun d xs ver X=>?_,fun d X ver=>?_,fun x a=>?_⟩
 · have e:List.take (O.length+1) (O++rZ xs ver::X)=O++[rZ xs ver]:=by
    rw [List.take_append,List.take_of_length_le (by omega)];simp
   rw [e]
   have:=EG (d:=d) (objs':=O++rZ xs ver::X) (Zh h xs ver)
   rwa [length_append] at this
 · simp [eY]
 · have:(O++[x,⟨87,7,[dK a],true,1⟩])[O.length+1]?=some ⟨87,7,[dK a],true,1⟩:=by
    rw [List.getElem?_append_right (by omega)];simp
   simp only [eY,lt_irrefl,if_false,fM,this,Nat.le_refl,decide_true,Bool.and_self,BEq.rfl,if_true]
   rfl
theorem aas {O:List Obj}(h:jq O) :
  (∀ d X,List.map (fO d O.length (O++X)) (List.take O.length (O++X))=O)∧
  (∀ xs v,eY 1 O.length (O++[rZ xs v]) (.aX O.length v)=aC xs):=by
 refine ⟨fun d X=>?_,fun xs v=>?_⟩
 · rw [List.take_append_of_le_length (Nat.le_refl _),take_length]
   exact EG h
 · have:(O++[rZ xs v])[O.length]?=some (rZ xs v):=by
    rw [List.getElem?_append_right (Nat.le_refl _)];simp
   simp only [eY,lt_irrefl,if_false,fM,this,Mj,Nat.le_refl,decide_true,Bool.and_self,BEq.rfl,if_true]
   rw [pR au fun n=>rfl]
   rfl
theorem acs {O:List Obj}(h:jq O) :
  (∀ d X,List.map (fO d O.length (O++X)) (List.take O.length (O++X))=O)∧
  (∀ n:Nd,eY 1 O.length (O++[⟨42,6,[au n],true,1⟩]) (.bL O.length 1 0 0)=.addr (au n)):=by
 refine ⟨(aas h).1,fun n=>?_⟩
 have:(O++[⟨42,6,[au n],true,1⟩])[O.length]?=some ⟨42,6,[au n],true,1⟩:=by
  rw [List.getElem?_append_right (Nat.le_refl _)];simp
 simp only [eY,lt_irrefl,if_false,fM,this,Nat.le_refl,decide_true,Bool.and_self,BEq.rfl,if_true]
 rfl
theorem R_ (l:List lG) (hl:l.length≤1000000) (hn:∀ a ∈ l,a.c.kind=3→Me a.c) (hs:∀ a ∈ l,a.c.s.length≤1000000):Gives Tryz.prog 74 [.addr (bP l)] ((gD l).map fun c=>[au c]):=by
 refine xI.gives (fnT:=sV [(75,m_)]) hD (af Mg ai) aT ?_
 intro I J objs y hI Hl VQ
 have hO:=(Hl 0 objs hI).2
 (conv=>arg 4;cbv);simp(maxSteps:=400000)only[↓aR,aS,BEq.rfl,reduceIte,reduceCtorEq,Nat.reduceLT,reduceAdd,reduceSub,reduceMul,Nat.reduceBEq,reduceLeDiff,reduceToNat,reduceLE,bf,bg]
 refine aF (fun m S=>∃ (i ver:Nat),i+m=l.length∧S=⟨cO 90 [(0,.D8 y),(1,.addr (bP l)),(3,.aX objs.length ver),(19,bP l),(20,.int .i64 l.length),(21,.int .i64 i)],objs++[rZ (BD++jw (l.take i)) ver]⟩) l.length ⟨0,1,by omega,?_⟩ ?_
 · simp only [bI,keepR,reduceAdd,kT,Nat.reduceBEq,map_nil]
   rfl
 rintro m S ⟨i,ver,him,rfl⟩
 rcases lt_or_ge i l.length with h | h
 · have hlt:((i:Int)<(l.length:Int))=True:=eq_true (by omega)
   have zi:(0≤(i:Int))=True:=eq_true (by omega)
   have hgi:=List.getElem?_eq_getElem h
   generalize l[i]=a at hgi
   have oB:=abd objs
   have oF:=acr hO
   have hxl:(BD++jw (l.take i)).length≤4+3*i:=by
    have h1:=r9 (l.take i)
    have h2:(l.take i).length≤i:=List.length_take_le i l
    have h3:BD.length=4:=rfl
    rw [length_append];omega
   have htk:=GY hgi
   have c0:BD++jw (l.take (i+1))=(BD++jw (l.take i))++BA a:=by rw [htk,append_assoc]
   generalize hX:BD++jw (l.take i)=X at hxl c0
   by_cases hk:a.c.kind=3
   rotate_left 1
   · have k3:(a.c.kind=3)=False:=eq_false hk
     simp(maxSteps:=400000)only[↓aR,aS,BEq.rfl,reduceIte,reduceCtorEq,Nat.reduceLT,reduceAdd,reduceSub,reduceMul,Nat.reduceBEq,reduceLeDiff,reduceToNat,reduceLE,hlt,zi,hgi,k3,oB,TF,Eu,append_assoc,cons_append,nil_append,length_append,length_cons,length_nil]
     refine aQ _ (Weak.freeze 1 (objs.length+1) (le_succ _) _) ?_
     simp(maxSteps:=400000)only[↓aR,aS,BEq.rfl,reduceIte,reduceCtorEq,Nat.reduceLT,reduceAdd,reduceSub,reduceMul,Nat.reduceBEq,reduceLeDiff,reduceToNat,reduceLE,oF]
     have e1:BA a=[]:=if_neg hk
     exact ⟨⟨by omega,by omega⟩,m-1,by omega,i+1,ver,by omega,by rw [c0,e1,append_nil];rfl⟩
   · have k3:(a.c.kind=3)=True:=eq_true hk
     have Zi:=hn a (List.mem_of_getElem? hgi) hk
     simp(maxSteps:=400000)only[↓aR,aS,BEq.rfl,reduceIte,reduceCtorEq,Nat.reduceLT,reduceAdd,reduceSub,reduceMul,Nat.reduceBEq,reduceLeDiff,reduceToNat,reduceLE,hlt,zi,hgi,k3,oB,TF,bf,bg,Eu,Mj,append_assoc,cons_append,nil_append,length_append,length_cons,length_nil,length_map,uN,Pp]
     refine ⟨by omega,by omega,?_⟩
     refine aQ _ (Weak.freeze 1 (objs.length+1) (le_succ _) _) ?_
     simp(maxSteps:=400000)only[↓aR,aS,BEq.rfl,reduceIte,reduceCtorEq,Nat.reduceLT,reduceAdd,reduceSub,reduceMul,Nat.reduceBEq,reduceLeDiff,reduceToNat,reduceLE,oF]
     have l1:(EX a true).length≤1:=by unfold EX;split <;> simp
     have l2:(EX a false).length≤1:=by unfold EX;split <;> simp
     have st:∀ (j:Int) (xs:List Nd) (v:Nat),St:=fun j xs v=>⟨cO 90 [(0,.D8 y),(1,.addr (bP l)),(3,.aX objs.length v),(5,.addr (dK a)),(19,bP l),(20,.int .i64 l.length),(21,.int .i64 i),(34,.sl 1 [.bool true,.bool false] none),(35,.int .i64 ((2:Nat):Int)),(36,.int .i64 j)],objs++[rZ xs v]⟩
     refine aF (fun m' S=>∃ (v:Nat) (j:Int) (xs:List Nd),(j=0∧m'=2∧xs=X++[a.c]∨j=1∧m'=1∧xs=X++[a.c]++EX a true∨j=2∧m'=0∧xs=X++[a.c]++EX a true++EX a false)∧S=⟨cO 90 [(0,.D8 y),(1,.addr (bP l)),(3,.aX objs.length v),(5,.addr (dK a)),(19,bP l),(20,.int .i64 l.length),(21,.int .i64 i),(34,.sl 1 [.bool true,.bool false] none),(35,.int .i64 ((2:Nat):Int)),(36,.int .i64 j)],objs++[rZ xs v]⟩) 2 ⟨ver+1,0,_,.inl ⟨rfl,rfl,rfl⟩,?_⟩ ?_
     · simp only [bI,keepR,reduceAdd,kT,Nat.reduceBEq,map_nil]
     rintro m' S ⟨v,j,xs,hj,rfl⟩
     have n2:((2:Nat):Int)=2:=rfl
     rcases hj with ⟨rfl,rfl,hxs⟩ | ⟨rfl,rfl,hxs⟩ | ⟨rfl,rfl,hxs⟩
     · have VF:xs.length≤8+3*i:=by rw [hxs];simp only [length_append,length_cons,length_nil];omega
       cases hb:(cZ a.c true).2
       · simp(maxSteps:=400000)only[↓aR,aS,BEq.rfl,reduceIte,reduceCtorEq,Nat.reduceLT,reduceAdd,reduceSub,reduceMul,Nat.reduceBEq,reduceLeDiff,reduceToNat,reduceLE,n2,Int.reduceLT,oB,bf,bg,Eu,Mj,↓m_,dL,hb,bN,append_assoc,cons_append,nil_append,length_append,length_cons,length_nil,length_map,uN,Pp]
         refine ⟨Zi,?_⟩
         refine aQ _ (Weak.freeze 1 (objs.length+1) (le_succ _) _) ?_
         simp(maxSteps:=400000)only[↓aR,aS,BEq.rfl,reduceIte,reduceCtorEq,Nat.reduceLT,reduceAdd,reduceSub,reduceMul,Nat.reduceBEq,reduceLeDiff,reduceToNat,reduceLE,oF]
         have hbs:EX a true=[]:=by simp [EX,hb]
         exact ⟨⟨by omega,by omega⟩,1,by omega,v,1,xs,.inr (.inl ⟨rfl,rfl,by rw [hxs,hbs,append_nil]⟩),rfl⟩
       · simp(maxSteps:=400000)only[↓aR,aS,BEq.rfl,reduceIte,reduceCtorEq,Nat.reduceLT,reduceAdd,reduceSub,reduceMul,Nat.reduceBEq,reduceLeDiff,reduceToNat,reduceLE,n2,Int.reduceLT,oB,bf,bg,Eu,Mj,↓m_,dL,hb,bN,append_assoc,cons_append,nil_append,length_append,length_cons,length_nil,length_map,uN,Pp]
         refine ⟨Zi,by omega,by omega,?_⟩
         refine aQ _ (Weak.freeze 1 (objs.length+1) (le_succ _) _) ?_
         simp(maxSteps:=400000)only[↓aR,aS,BEq.rfl,reduceIte,reduceCtorEq,Nat.reduceLT,reduceAdd,reduceSub,reduceMul,Nat.reduceBEq,reduceLeDiff,reduceToNat,reduceLE,oF]
         have hbs:EX a true=[(cZ a.c true).1]:=by simp [EX,hb]
         exact ⟨⟨by omega,by omega⟩,1,by omega,v+1,1,xs++[(cZ a.c true).1],.inr (.inl ⟨rfl,rfl,by rw [hxs,hbs]⟩),rfl⟩
     · have VF:xs.length≤8+3*i:=by rw [hxs];simp only [length_append,length_cons,length_nil];omega
       cases hb:(cZ a.c false).2
       · simp(maxSteps:=400000)only[↓aR,aS,BEq.rfl,reduceIte,reduceCtorEq,Nat.reduceLT,reduceAdd,reduceSub,reduceMul,Nat.reduceBEq,reduceLeDiff,reduceToNat,reduceLE,n2,Int.reduceLT,oB,bf,bg,Eu,Mj,↓m_,dL,hb,bN,append_assoc,cons_append,nil_append,length_append,length_cons,length_nil,length_map,uN,Pp]
         refine ⟨Zi,?_⟩
         refine aQ _ (Weak.freeze 1 (objs.length+1) (le_succ _) _) ?_
         simp(maxSteps:=400000)only[↓aR,aS,BEq.rfl,reduceIte,reduceCtorEq,Nat.reduceLT,reduceAdd,reduceSub,reduceMul,Nat.reduceBEq,reduceLeDiff,reduceToNat,reduceLE,oF]
         have hbs:EX a false=[]:=by simp [EX,hb]
         exact ⟨⟨by omega,by omega⟩,0,by omega,v,2,xs,.inr (.inr ⟨rfl,rfl,by rw [hxs,hbs,append_nil]⟩),rfl⟩
       · simp(maxSteps:=400000)only[↓aR,aS,BEq.rfl,reduceIte,reduceCtorEq,Nat.reduceLT,reduceAdd,reduceSub,reduceMul,Nat.reduceBEq,reduceLeDiff,reduceToNat,reduceLE,n2,Int.reduceLT,oB,bf,bg,Eu,Mj,↓m_,dL,hb,bN,append_assoc,cons_append,nil_append,length_append,length_cons,length_nil,length_map,uN,Pp]
         refine ⟨Zi,by omega,by omega,?_⟩
         refine aQ _ (Weak.freeze 1 (objs.length+1) (le_succ _) _) ?_
         simp(maxSteps:=400000)only[↓aR,aS,BEq.rfl,reduceIte,reduceCtorEq,Nat.reduceLT,reduceAdd,reduceSub,reduceMul,Nat.reduceBEq,reduceLeDiff,reduceToNat,reduceLE,oF]
         have hbs:EX a false=[(cZ a.c false).1]:=by simp [EX,hb]
         exact ⟨⟨by omega,by omega⟩,0,by omega,v+1,2,xs++[(cZ a.c false).1],.inr (.inr ⟨rfl,rfl,by rw [hxs,hbs]⟩),rfl⟩
     · simp(maxSteps:=400000)only[↓aR,aS,BEq.rfl,reduceIte,reduceCtorEq,Nat.reduceLT,reduceAdd,reduceSub,reduceMul,Nat.reduceBEq,reduceLeDiff,reduceToNat,reduceLE,n2,Int.reduceLT]
       refine aQ _ (Weak.freeze 1 (objs.length+1) (le_succ _) _) ?_
       simp(maxSteps:=400000)only[↓aR,aS,BEq.rfl,reduceIte,reduceCtorEq,Nat.reduceLT,reduceAdd,reduceSub,reduceMul,Nat.reduceBEq,reduceLeDiff,reduceToNat,reduceLE,oF]
       exact ⟨⟨by omega,by omega⟩,m-1,by omega,i+1,v,by omega,by rw [c0,C8 hk,hxs,append_assoc,append_assoc,append_assoc];rfl⟩
 · have hlt:((i:Int)<(l.length:Int))=False:=eq_false (by omega)
   have oB:=abd objs
   have oF:=acr hO
   have hxl:(BD++jw (l.take i)).length≤4+3*i:=by
    have h1:=r9 (l.take i)
    have h2:(l.take i).length≤i:=List.length_take_le i l
    have h3:BD.length=4:=rfl
    rw [length_append];omega
   have hi:i=l.length:=by omega
   rw [hi,take_length]
   rw [hi,take_length] at hxl
   generalize hX:BD++jw l=X at hxl
   have hlt2:((l.length:Int)<(l.length:Int))=False:=eq_false (by omega)
   simp(maxSteps:=400000)only[↓aR,aS,BEq.rfl,reduceIte,reduceCtorEq,Nat.reduceLT,reduceAdd,reduceSub,reduceMul,Nat.reduceBEq,reduceLeDiff,reduceToNat,reduceLE,hlt2,oB,bf,bg,Eu,Mj,append_assoc,cons_append,nil_append,length_append,length_cons,length_nil,length_map,uN,Pp]
   refine ⟨by omega,by omega,?_⟩
   refine aF (fun m S=>∃ (i ver:Nat),i+m=l.length∧S=⟨cO 90 [(0,.D8 y),(3,.aX objs.length ver),(58,bP l),(59,.int .i64 l.length),(60,.int .i64 i)],objs++[rZ (X++⟨4,0,[],[],false,0⟩::kY (l.take i)) ver]⟩) l.length ⟨0,ver+1,by omega,?_⟩ ?_
   · simp only [bI,keepR,reduceAdd,kT,Nat.reduceBEq,map_nil]
     rfl
   rintro m S ⟨i,ver,him,rfl⟩
   have VF:(X++⟨4,0,[],[],false,0⟩::kY (l.take i)).length≤8+3*l.length+2*i:=by
    have h1:=xk (l.take i)
    have h2:(l.take i).length≤i:=List.length_take_le i l
    rw [length_append,length_cons];omega
   rcases lt_or_ge i l.length with h | h
   · have hlt:((i:Int)<(l.length:Int))=True:=eq_true (by omega)
     have zi:(0≤(i:Int))=True:=eq_true (by omega)
     have hgi:=List.getElem?_eq_getElem h
     generalize l[i]=a at hgi
     have has:=hs a (List.mem_of_getElem? hgi)
     have c0:X++⟨4,0,[],[],false,0⟩::kY (l.take (i+1))=(X++⟨4,0,[],[],false,0⟩::kY (l.take i))++BB a:=by rw [GZ hgi];simp
     generalize hY:X++⟨4,0,[],[],false,0⟩::kY (l.take i)=Y at VF c0
     by_cases hk:a.c.kind=4
     rotate_left 1
     · have k4:(a.c.kind=4)=False:=eq_false hk
       simp(maxSteps:=400000)only[↓aR,aS,BEq.rfl,reduceIte,reduceCtorEq,Nat.reduceLT,reduceAdd,reduceSub,reduceMul,Nat.reduceBEq,reduceLeDiff,reduceToNat,reduceLE,hlt,zi,hgi,k4,oB,TF,bf,bg,Eu,Mj,append_assoc,cons_append,nil_append,length_append,length_cons,length_nil,length_map,uN,aar,Pp]
       refine aQ _ (Weak.freeze 1 (objs.length+1) (le_succ _) _) ?_
       simp(maxSteps:=400000)only[↓aR,aS,BEq.rfl,reduceIte,reduceCtorEq,Nat.reduceLT,reduceAdd,reduceSub,reduceMul,Nat.reduceBEq,reduceLeDiff,reduceToNat,reduceLE,oF]
       have e1:BB a=[]:=if_neg hk
       exact ⟨⟨by omega,by omega⟩,m-1,by omega,i+1,ver,by omega,by rw [c0,e1,append_nil];rfl⟩
     · have k4:(a.c.kind=4)=True:=eq_true hk
       simp(maxSteps:=400000)only[↓aR,aS,BEq.rfl,reduceIte,reduceCtorEq,Nat.reduceLT,reduceAdd,reduceSub,reduceMul,Nat.reduceBEq,reduceLeDiff,reduceToNat,reduceLE,hlt,zi,hgi,k4,oB,TF,bf,bg,Eu,Mj,append_assoc,cons_append,nil_append,length_append,length_cons,length_nil,length_map,uN,aar,Pp]
       refine ⟨by omega,fun y hy=>by simp only [List.mem_cons,List.not_mem_nil,or_false] at hy;rcases hy with rfl | rfl <;> exact ⟨rfl,rfl⟩,by omega,by omega,?_⟩
       refine aQ _ (Weak.freeze 1 (objs.length+1) (le_succ _) _) ?_
       simp(maxSteps:=400000)only[↓aR,aS,BEq.rfl,reduceIte,reduceCtorEq,Nat.reduceLT,reduceAdd,reduceSub,reduceMul,Nat.reduceBEq,reduceLeDiff,reduceToNat,reduceLE,oF]
       have e1:BB a=[a.c,⟨4,0,[],a.c.s++[0],false,0⟩]:=if_pos hk
       exact ⟨⟨by omega,by omega⟩,m-1,by omega,i+1,ver+1,by omega,by rw [c0,e1];rfl⟩
   have hi:i=l.length:=by omega
   have hlt2:((l.length:Int)<(l.length:Int))=False:=eq_false (by omega)
   rw [hi,take_length]
   rw [hi,take_length] at VF
   have hC:X++⟨4,0,[],[],false,0⟩::kY l=gD l:=by rw [← hX];rfl
   rw [hC]
   rw [hC] at VF
   generalize gD l=C at VF
   simp(maxSteps:=400000)only[↓aR,aS,BEq.rfl,reduceIte,reduceCtorEq,Nat.reduceLT,reduceAdd,reduceSub,reduceMul,Nat.reduceBEq,reduceLeDiff,reduceToNat,reduceLE,hlt2]
   refine aQ _ (Weak.freeze 1 objs.length (Nat.le_refl _) _) ?_
   have o1:=aas hO
   simp(maxSteps:=400000)only[↓aR,aS,BEq.rfl,reduceIte,reduceCtorEq,Nat.reduceLT,reduceAdd,reduceSub,reduceMul,Nat.reduceBEq,reduceLeDiff,reduceToNat,reduceLE,o1]
   refine aF (fun m S=>∃ (i:Nat) (O:List Obj),i+m=C.length∧I i O∧S=⟨cO 90 [(0,.D8 y),(79,aC C),(80,.int .i64 C.length),(81,.int .i64 i)],O⟩) C.length ⟨0,objs,by omega,hI,?_⟩ ?_
   · simp only [bI,keepR,reduceAdd,kT,Nat.reduceBEq,map_nil]
     rfl
   rintro m S ⟨i,O,him,hIi,rfl⟩
   have hOl:=(Hl i O hIi).1
   have hOO:=(Hl i O hIi).2
   rcases lt_or_ge i C.length with h | h
   · have hlt:((i:Int)<(C.length:Int))=True:=eq_true (by omega)
     have zi:(0≤(i:Int))=True:=eq_true (by omega)
     have hgi:=List.getElem?_eq_getElem h
     generalize C[i]=c at hgi
     have oB:=abd O
     simp(maxSteps:=400000)only[↓aR,aS,BEq.rfl,reduceIte,reduceCtorEq,Nat.reduceLT,reduceAdd,reduceSub,reduceMul,Nat.reduceBEq,reduceLeDiff,reduceToNat,reduceLE,hlt,zi,hgi,oB,bf,bg,Eu]
     refine aQ _ (Weak.freeze 1 O.length hOl _) ?_
     have o2:=acs hOO
     simp(maxSteps:=400000)only[↓aR,aS,BEq.rfl,reduceIte,reduceCtorEq,Nat.reduceLT,reduceAdd,reduceSub,reduceMul,Nat.reduceBEq,reduceLeDiff,reduceToNat,reduceLE,o2,VP]
     refine ⟨rfl,i,hIi,by rw [hgi];rfl,fun O' hI'=>⟨⟨by omega,by omega⟩,m-1,by omega,i+1,O',by omega,hI',rfl⟩,fun O' hJ'=>⟨.inr rfl,.inr ⟨i,h,hJ'⟩⟩⟩
   · have hlt:((i:Int)<(C.length:Int))=False:=eq_false (by omega)
     simp(maxSteps:=400000)only[↓aR,aS,BEq.rfl,reduceIte,reduceCtorEq,Nat.reduceLT,reduceAdd,reduceSub,reduceMul,Nat.reduceBEq,reduceLeDiff,reduceToNat,reduceLE,hlt]
     have hi:i=C.length:=by omega
     subst hi
     exact ⟨.inl rfl,.inl hIi⟩
end Lp
set_option maxRecDepth 100000
namespace Lp
open Go Go.Proofs Go.RowKit
open List (mem_cons mem_singleton not_mem_nil)
open Nat (reduceAdd reduceLeDiff reduceMul reduceSub)
open Int (reduceLE reduceToNat)
set_option maxHeartbeats 8000000
def BF:dF:=fun args objs K=>match args with
 | [a0]=>f_ bP a0 (HK.mk:HK fun l=>K (.fn 74 [] [.addr (bP l)]) objs 0)
 | _=>False
theorem Pq:aD Tryz.prog 50 (BF):=by
 intro args objs K h
 unfold BF at h
 split at h
 · rename_i a0
   obtain ⟨l,rfl,hk⟩:=h
   exact ⟨_,_,_,.pure _ rfl (Et l),hk⟩
 · exact h.elim
def BG:dF:=fun args objs K=>match args with
 | [.int .i64 mask,a1,a2]=>f_ bP a1 (HK.mk:HK fun l=>f_ au a2 (HK.mk:HK fun n=>(0≤mask∧mask≤31)∧(l.length≤1000000)∧(∀ a ∈ l,fu a.c)∧(rV n)∧(n.s.length≤1000000)∧K (.bool (dn mask l n)) objs 0))
 | _=>False
theorem Sb:aD Tryz.prog 51 (BG):=by
 intro args objs K h
 unfold BG at h
 split at h
 · rename_i mask a1 a2
   obtain ⟨l,rfl,n,rfl,h1,h2,h3,h4,h5,hk⟩:=h
   exact ⟨_,_,_,.pure _ rfl (LU mask l n h1 h2 h3 h4 h5),hk⟩
 · exact h.elim
def X5 (mask:Int) (l:List lG) (x:Nd) (b:Bool):List Obj:=[⟨3,1,[.int .i64 mask],true,1⟩,⟨54,1,[bP l],true,1⟩,⟨42,6,[au x],true,1⟩,⟨4,1,[.bool b],true,1⟩]
theorem G5 (mask:Int) (l:List lG) (x:Nd) (b:Bool):eP (X5 mask l x b++[BP,hole]):=by
 intro o ho y hy c hc
 simp only [X5,List.cons_append,List.nil_append,mem_cons,not_mem_nil,or_false] at ho
 rcases ho with rfl | rfl | rfl | rfl | rfl | rfl
 · simp only [mem_singleton] at hy;subst hy
   simp only [PV.cells,mem_singleton] at hc;subst hc;rfl
 · simp only [mem_singleton] at hy;subst hy
   simp only [bP,PV.cells,mem_singleton] at hc;subst hc;rfl
 · simp only [mem_singleton] at hy;subst hy
   simp only [au,PV.cells,mem_cons,not_mem_nil,or_false] at hc
   rcases hc with rfl | rfl | rfl | rfl | rfl | rfl <;> rfl
 · simp only [mem_singleton] at hy;subst hy
   simp only [PV.cells,mem_singleton] at hc;subst hc;rfl
 · cases hy
 · cases hy
theorem X6 (mask:Int) (l:List lG) (x:Nd) (b:Bool):Gh 4 (X5 mask l x b++[BP,hole]):=⟨Nat.le_refl _,(G5 mask l x b).lt,rfl,rfl⟩
def ko (mask:Int) (l:List lG):PV:=.bV [au (mF mask l).1,.bool (mF mask l).2]
theorem Sc (l:List Nd):∀ y ∈ l.map (fun s=>[au s]),y.length=1:=by
 intro y hy
 obtain ⟨p,_,rfl⟩:=List.mem_map.1 hy
 rfl
theorem Sd {l:List Nd}{i:Nat}{args:List PV}(h:(l.map fun s=>[au s])[i]?=some args):∃ s,l[i]?=some s∧args=[au s]:=by
 rw [List.getElem?_map] at h
 cases hx:l[i]? with
 | none=>rw [hx] at h;simp at h
 | some p=>rw [hx] at h;exact ⟨p,rfl,by simpa using h.symm⟩
theorem J6 {mask:Int}{l:List lG}{i:Nat}{c:Nd}(h:(gD l)[i]?=some c) (hm:dn mask l c=true) (hb:∀ (j:Nat) d,j<i→(gD l)[j]?=some d→dn mask l d=false):mF mask l=(c,true):=by
 have:(gD l).find? (fun n=>dn mask l n)=some c:=by
  rw [List.find?_eq_some_iff_getElem]
  obtain ⟨hi,he⟩:=List.getElem?_eq_some_iff.1 h
  refine ⟨hm,i,hi,he,fun j hj=>?_⟩
  have:=hb j _ hj (List.getElem?_eq_getElem (by omega))
  simp [this]
 simp [mF,this]
theorem G6 {mask:Int}{l:List lG}(hb:∀ (j:Nat) d,(gD l)[j]?=some d→dn mask l d=false):mF mask l=(aW,false):=by
 have:(gD l).find? (fun n=>dn mask l n)=none:=by
  rw [List.find?_eq_none]
  intro x hx
  obtain ⟨i,hi⟩:=List.mem_iff_getElem?.1 hx
  simp [hb i x hi]
 simp [mF,this]
theorem Ps (mask:Int) (l:List lG) (x:Nd) (b:Bool) (o:Obj) (tm:List PV):(St.norm [] (some (1,6)) ⟨tm,X5 mask l x b++[BP,hole,o]⟩).objs=X5 mask l x b++[BP,hole]:=
 EG (objs:=X5 mask l x b++[BP,hole]) (G5 mask l x b).lt
theorem fu.num {n:Nd}(h:fu n) (hk:n.kind=3):Me n:=by
 have hb:=(nO n).1 (pQ (nD h.sc).1 hk)
 refine ⟨hb.2.2.1,hb.2.1,hb.2.2.2.1,hb.2.2.2.2.1,fun hs=>?_⟩
 have hl:=hb.2.2.2.2.2.2
 rw [if_neg hs] at hl
 unfold Lib.trimRightB
 have hne:n.s.reverse≠[]:=by simpa using hs
 obtain ⟨x,r,hx⟩:=List.exists_cons_of_ne_nil hne
 have hx0:x≠48:=fun e=>hl.2 (by rw [← List.head?_reverse,hx,e];rfl)
 have:(x==(48:UInt8))=false:=by simpa using hx0
 rw [hx,List.dropWhile_cons,this]
 simp
theorem Sg (neg:Bool) (f:List UInt8) (e:Int):(dM neg f e).1.name=[]:=by
 unfold dM
 split
 · rfl
 split
 · rfl
 split
 · rfl
 split <;> rfl
theorem Ml (n:Nd) (b:Bool):(cZ n b).1.s.length≤100∧(cZ n b).1.name=[]:=by
 unfold cZ
 split
 · exact ⟨by simp,rfl⟩
 · exact ⟨Vx _ _ _,Sg _ _ _⟩
theorem G7 {l:List lG}(hc:∀ a ∈ l,fu a.c) (hs:∀ a ∈ l,a.c.s.length≤500000):∀ c ∈ gD l,rV c∧c.s.length≤500001:=by
 have key:∀ c:Nd,c.name=[]→c.s.length≤500001→rV c∧c.s.length≤500001:=fun c h1 h2=>⟨⟨by omega,by rw [h1];simp⟩,h2⟩
 intro c hcm
 simp only [gD,List.mem_append,mem_cons,not_mem_nil,or_false,um,uo,List.mem_flatten,List.mem_map] at hcm
 rcases hcm with ((rfl | rfl | rfl | rfl) | ⟨x,⟨a,ha,rfl⟩,hx⟩) | rfl | ⟨x,⟨a,ha,rfl⟩,hx⟩
 · exact key _ rfl (by simp)
 · exact key _ rfl (by simp)
 · exact key _ rfl (by simp)
 · exact key _ rfl (by simp)
 · by_cases hk:a.c.kind=3
   · rw [C8 hk] at hx
     simp only [List.mem_append,mem_cons,not_mem_nil,or_false] at hx
     have hb:∀ b,c ∈ EX a b→rV c∧c.s.length≤500001:=fun b hb=>by
      unfold EX at hb
      split at hb
      · rw [mem_singleton] at hb;subst hb
        have:=Ml a.c b
        exact key _ this.2 (by omega)
      · cases hb
     rcases hx with (rfl | hx) | hx
     · exact key _ (nD (hc a ha).sc).2.1 (by have:=hs a ha;omega)
     · exact hb _ hx
     · exact hb _ hx
   · rw [show BA a=[] from if_neg hk] at hx;cases hx
 · exact key _ rfl (by simp)
 · by_cases hk:a.c.kind=4
   · rw [show BB a=[a.c,⟨4,0,[],a.c.s++[0],false,0⟩] from if_pos hk] at hx
     have hsa:=hs a ha
     simp only [mem_cons,not_mem_nil,or_false] at hx
     rcases hx with rfl | rfl
     · exact key _ (nD (hc a ha).sc).2.1 (by omega)
     · exact key _ rfl (by simp;omega)
   · rw [show BB a=[] from if_neg hk] at hx;cases hx
theorem Si (mask:Int) (l:List lG) (hm:0≤mask∧mask≤31) (hl:l.length≤1000000) (hc:∀ a ∈ l,fu a.c) (hs:∀ a ∈ l,a.c.s.length≤500000):ah Tryz.prog 27 [.int .i64 mask,bP l] [] (ko mask l) []:=by
 refine KP.aa6 (T:=aO Tryz.prog [(50,BF),(51,BG)]) 1 hD (aj (af Pq (af Sb ai))) aT (by decide) (by decide) fun Q hQ=>?_
 have hgv:=R_ l hl (fun a ha hk=>(hc a ha).num hk) (fun a ha=>by have:=hs a ha;omega)
 (conv=>arg 4;cbv);simp(maxSteps:=400000)only[↓aR,aS,BEq.rfl,reduceIte,reduceCtorEq,Nat.reduceLT,reduceAdd,reduceSub,reduceMul,Nat.reduceBEq,reduceLeDiff,reduceToNat,reduceLE,hQ,↓BF,bf,bg]
 refine YW 74 [.addr (bP l)] ((gD l).map fun c=>[au c])
  (fun i O=>(∀ (j:Nat) d,j<i→(gD l)[j]?=some d→dn mask l d=false)∧i≤(gD l).length∧O=X5 mask l ⟨0,0,[],[],false,0⟩ false++[BP,hole])
  (fun i O=>∃ c,(gD l)[i]?=some c∧dn mask l c=true∧(∀ (j:Nat) d,j<i→(gD l)[j]?=some d→dn mask l d=false)∧O=X5 mask l c true++[BP,hole]) .ret rfl rfl rfl rfl (Nat.le_refl _) hgv (Sc _) ⟨fun j q h=>absurd h (Nat.not_lt_zero j),Nat.zero_le _,rfl⟩ ?_ ?_ ?_ ?_ ?_
 · rintro i O ⟨_,_,rfl⟩
   exact X6 _ _ _ _
 · rintro i O ⟨c,_,_,_,rfl⟩
   exact ⟨X6 _ _ _ _,G5 _ _ _ _⟩
 · rintro i args O ⟨hb,hi,rfl⟩ ha
   obtain ⟨c,hci,rfl⟩:=Sd ha
   have hil:=(List.getElem?_eq_some_iff.1 hci).1
   unfold X5
   have hsm:=G7 hc hs c (List.mem_of_getElem? hci)
   cases he:dn mask l c
   · simp(maxSteps:=400000)only[↓aR,aS,BEq.rfl,reduceIte,reduceCtorEq,Nat.reduceLT,reduceAdd,reduceSub,reduceMul,Nat.reduceBEq,reduceLeDiff,reduceToNat,reduceLE,hQ,qf,knI,bf,bg,Eu,↓BG,he]
     refine ⟨hm,hl,hc,hsm.1,by omega,fun j d hj hd=>?_,by omega,Ps mask l ⟨0,0,[],[],false,0⟩ false _ _⟩
     rcases Nat.lt_or_ge j i with g | g
     · exact hb j d g hd
     · have:j=i:=by omega
       subst this
       rw [hci] at hd;cases hd;exact he
   · simp(maxSteps:=400000)only[↓aR,aS,BEq.rfl,reduceIte,reduceCtorEq,Nat.reduceLT,reduceAdd,reduceSub,reduceMul,Nat.reduceBEq,reduceLeDiff,reduceToNat,reduceLE,hQ,qf,knI,bf,bg,Eu,↓BG,he]
     exact ⟨hm,hl,hc,hsm.1,by omega,rfl,c,hci,he,hb,Ps mask l c true _ _⟩
 · rintro O ⟨hb,hi,rfl⟩
   unfold X5
   simp(maxSteps:=400000)only[↓aR,aS,BEq.rfl,reduceIte,reduceCtorEq,Nat.reduceLT,reduceAdd,reduceSub,reduceMul,Nat.reduceBEq,reduceLeDiff,reduceToNat,reduceLE,hQ,bf,bg]
   have hr:ko mask l=.bV [au aW,.bool false]:=by
    have:=G6 (mask:=mask) (l:=l) fun j d hd=>hb j d (by rw [List.length_map];exact (List.getElem?_eq_some_iff.1 hd).1) hd
    simp [ko,this]
   exact ⟨by decide,rfl,by rw [hr];rfl⟩
 · rintro i O hi ⟨c,hci,he,hb,rfl⟩
   unfold X5
   simp(maxSteps:=400000)only[↓aR,aS,BEq.rfl,reduceIte,reduceCtorEq,Nat.reduceLT,reduceAdd,reduceSub,reduceMul,Nat.reduceBEq,reduceLeDiff,reduceToNat,reduceLE,hQ,bf,bg]
   have hr:ko mask l=.bV [au c,.bool true]:=by
    simp [ko,J6 hci he hb]
   rw [hr]
   exact ⟨_,_,rfl,rfl,rfl,rfl,Nat.le_refl _,rfl,_,_,rfl,rfl,rfl,rfl,Nat.le_refl _,rfl,rfl⟩
def BH:dF:=fun args objs K=>match args with
 | [.int .i64 mask,a1]=>f_ bP a1 (HK.mk:HK fun l=>(0≤mask∧mask≤31)∧(l.length≤1000000)∧(∀ a ∈ l,fu a.c)∧(∀ a ∈ l,a.c.s.length≤500000)∧K (ko mask l) objs 0)
 | _=>False
theorem Pt:aD Tryz.prog 27 (BH):=by
 intro args objs K h
 unfold BH at h
 split at h
 · rename_i mask a1
   obtain ⟨l,rfl,h1,h2,h3,h4,hk⟩:=h
   exact ⟨_,_,_,.pure _ rfl (Si mask l h1 h2 h3 h4),hk⟩
 · exact h.elim
end Lp
set_option maxRecDepth 100000
namespace Lp
open Go Go.Proofs Go.RowKit
open List (append_assoc append_nil getElem_mem length_append length_cons length_nil map_nil take_succ_cons take_zero)
open Nat (lt_or_ge reduceAdd reduceLeDiff reduceMul reduceSub)
open Int (reduceLE reduceToNat)
set_option maxHeartbeats 8000000
theorem VG {neg:Bool}{f:List UInt8}{e:Int}(h:¬ (dM neg f e).2=0):(dM neg f e).1=aW:=by
 unfold dM at h ⊢
 split
 · rfl
 · rename_i h1
   rw [if_neg h1] at h
   split
   · rename_i h2;rw [if_pos h2] at h;exact absurd rfl h
   · rename_i h2
     rw [if_neg h2] at h
     split
     · rfl
     · rename_i h3
       rw [if_neg h3] at h
       split
       · rfl
       · rename_i h4;rw [if_neg h4] at h;exact absurd rfl h
theorem G8 (n:Nd) (above:Bool) (hn:Me n):ah Tryz.prog 87 [au n,.bool above] [] (dL n above) []:=by
 refine xP.GX (T:=aO Tryz.prog [(114,l9),(111,jW),(112,Bz),(113,uj)]) 0 hD (aj (af Pj (af Mi (af RZ (af R7 ai))))) aT (by decide) (by decide) fun Q hQ=>?_
 by_cases hs:n.s=[]
 · have hr:dL n above=.bV [au ⟨3,0,[],[49],!above,-1000⟩,.bool true]:=by simp [dL,cZ,hs]
   (conv=>arg 4;cbv);simp(maxSteps:=400000)only[↓aR,aS,BEq.rfl,reduceIte,reduceCtorEq,Nat.reduceLT,reduceAdd,reduceSub,reduceMul,Nat.reduceBEq,reduceLeDiff,reduceToNat,reduceLE,hQ,hs,hr,bf,bg]
   repeat' (first | omega | exact rfl | refine ⟨?_,?_⟩)
 have hs':(n.s=[])=False:=eq_false hs
 have l1:=hn.len
 have l2:=hn.lo
 have l3:=hn.hi
 have hE:∀ T:Int,jv n above=max (T-100) (-1000)→(if (-1000:Int) > T-100 then (-1000:Int) else T-100)=jv n above:=fun T h=>by rw [h];split <;> omega
 have l4:(0:Int)<n.s.length:=by
  cases h:n.s with
  | nil=>exact absurd h hs
  | cons x r=>simp
 have hEb:-1000≤jv n above∧jv n above≤1000∧jv n above≤n.e:=by
  unfold jv
  split <;> omega
 generalize S9:jv n above=E at *
 have Es:lH n E=n.s++List.replicate (n.e-E).toNat 48:=rfl
 have hpl:(lH n E).length≤3000:=by rw [Es,length_append,List.length_replicate];omega
 have hpf:fH (lH n E)=true:=DW _ _ hn.fH (Pg _)
 have hpt:0<(Lib.trimRightB (lH n E) 48).length:=by rw [Es,J3];exact hn.last hs
 have hul:=VE (lH n E)
 have hdl:=J4 (lH n E)
 have fin:∀ X:List UInt8,dL n above=.bV [au (dM n.neg X E).1,.bool (decide ((dM n.neg X E).2=0))]→(¬ (dM n.neg X E).2=0→dL n above=.bV [au ⟨0,0,[],[],false,0⟩,.bool false])∧((dM n.neg X E).2=0→dL n above=.bV [au (dM n.neg X E).1,.bool true]):=fun X h=>
  ⟨fun g=>by rw [h,VG g,decide_eq_false g];rfl,fun g=>by rw [h,decide_eq_true g]⟩
 by_cases hg:n.neg=above
 · have hg':(n.neg=above)=True:=eq_true hg
   have hr:dL n above=.bV [au (dM n.neg (nE (lH n E)) E).1,.bool (decide ((dM n.neg (nE (lH n E)) E).2=0))]:=by
    simp only [dL,cZ,if_neg hs,if_pos hg,S9]
   obtain ⟨f1,f2⟩:=fin _ hr
   generalize hX:nE (lH n E)=X at *
   by_cases h49:n.s=[49]
   · have Mf:(n.s=[49])=True:=eq_true h49
     have hEe:=hE (n.s.length+n.e-1) (by rw [← S9];unfold jv;rw [if_pos ⟨hg,h49⟩])
     by_cases hM:(dM n.neg X E).2=0
     · have hM':=eq_true hM
       have hr2:=f2 hM
       (conv=>arg 4;cbv);simp(maxSteps:=400000)only[↓aR,aS,BEq.rfl,reduceIte,reduceCtorEq,Nat.reduceLT,reduceAdd,reduceSub,reduceMul,Nat.reduceBEq,reduceLeDiff,reduceToNat,reduceLE,hQ,↓l9,↓jW,↓uj,hs',hg',Mf,bf,bg,bC,rP,rQ,fQ,hEe,hX,dR,hM',hr2]
       repeat' (first | omega | exact hpf | exact hpt | exact rfl | refine ⟨?_,?_⟩)
     · have hM':=eq_false hM
       have hr2:=f1 hM
       (conv=>arg 4;cbv);simp(maxSteps:=400000)only[↓aR,aS,BEq.rfl,reduceIte,reduceCtorEq,Nat.reduceLT,reduceAdd,reduceSub,reduceMul,Nat.reduceBEq,reduceLeDiff,reduceToNat,reduceLE,hQ,↓l9,↓jW,↓uj,hs',hg',Mf,bf,bg,bC,rP,rQ,fQ,hEe,hX,dR,hM',hr2]
       repeat' (first | omega | exact hpf | exact hpt | exact rfl | refine ⟨?_,?_⟩)
   · have Mf:(n.s=[49])=False:=eq_false h49
     have hEe:=hE (n.s.length+n.e) (by rw [← S9];unfold jv;rw [if_neg fun h=>h49 h.2])
     by_cases hM:(dM n.neg X E).2=0
     · have hM':=eq_true hM
       have hr2:=f2 hM
       (conv=>arg 4;cbv);simp(maxSteps:=400000)only[↓aR,aS,BEq.rfl,reduceIte,reduceCtorEq,Nat.reduceLT,reduceAdd,reduceSub,reduceMul,Nat.reduceBEq,reduceLeDiff,reduceToNat,reduceLE,hQ,↓l9,↓jW,↓uj,hs',hg',Mf,bf,bg,bC,rP,rQ,fQ,hEe,hX,dR,hM',hr2]
       repeat' (first | omega | exact hpf | exact hpt | exact rfl | refine ⟨?_,?_⟩)
     · have hM':=eq_false hM
       have hr2:=f1 hM
       (conv=>arg 4;cbv);simp(maxSteps:=400000)only[↓aR,aS,BEq.rfl,reduceIte,reduceCtorEq,Nat.reduceLT,reduceAdd,reduceSub,reduceMul,Nat.reduceBEq,reduceLeDiff,reduceToNat,reduceLE,hQ,↓l9,↓jW,↓uj,hs',hg',Mf,bf,bg,bC,rP,rQ,fQ,hEe,hX,dR,hM',hr2]
       repeat' (first | omega | exact hpf | exact hpt | exact rfl | refine ⟨?_,?_⟩)
 · have hg':(n.neg=above)=False:=eq_false hg
   have hr:dL n above=.bV [au (dM n.neg (qC (lH n E)) E).1,.bool (decide ((dM n.neg (qC (lH n E)) E).2=0))]:=by
    rw [R9]
    simp only [dL,cZ,if_neg hs,if_neg hg,S9]
   obtain ⟨f1,f2⟩:=fin _ hr
   have hEe:=hE (n.s.length+n.e) (by rw [← S9];unfold jv;rw [if_neg fun h=>hg h.1])
   generalize hX:qC (lH n E)=X at *
   by_cases hM:(dM n.neg X E).2=0
   · have hM':=eq_true hM
     have hr2:=f2 hM
     (conv=>arg 4;cbv);simp(maxSteps:=400000)only[↓aR,aS,BEq.rfl,reduceIte,reduceCtorEq,Nat.reduceLT,reduceAdd,reduceSub,reduceMul,Nat.reduceBEq,reduceLeDiff,reduceToNat,reduceLE,hQ,↓l9,↓jW,↓Bz,hs',hg',bf,bg,bC,rP,rQ,fQ,hEe,hX,dR,hM',hr2]
     repeat' (first | omega | exact hpf | exact hpt | exact rfl | refine ⟨?_,?_⟩)
   · have hM':=eq_false hM
     have hr2:=f1 hM
     (conv=>arg 4;cbv);simp(maxSteps:=400000)only[↓aR,aS,BEq.rfl,reduceIte,reduceCtorEq,Nat.reduceLT,reduceAdd,reduceSub,reduceMul,Nat.reduceBEq,reduceLeDiff,reduceToNat,reduceLE,hQ,↓l9,↓jW,↓Bz,hs',hg',bf,bg,bC,rP,rQ,fQ,hEe,hX,dR,hM',hr2]
     repeat' (first | omega | exact hpf | exact hpt | exact rfl | refine ⟨?_,?_⟩)
def kV:dF:=fun args objs K=>match args with
 | [a0,.bool above]=>f_ au a0 (HK.mk:HK fun n=>(Me n)∧K (dL n above) objs 0)
 | _=>False
theorem I5:aD Tryz.prog 87 (kV):=by
 intro args objs K h
 unfold kV at h
 split at h
 · rename_i a0 above
   obtain ⟨n,rfl,h1,hk⟩:=h
   exact ⟨_,_,_,.pure _ rfl (G8 n above h1),hk⟩
 · exact h.elim
theorem TG (objs:List Obj) (K:KT):(∀ k,bE D 42 [(0,.int .i64 k)] objs K=K (au ⟨k,0,[],[],false,0⟩) objs 0)∧(∀ k s,bE D 42 [(0,.int .i64 k),(3,.str s)] objs K=K (au ⟨k,0,[],s,false,0⟩) objs 0):=by
 have z:aK (D 42)=au ⟨0,0,[],[],false,0⟩:=by kernel_rfl
 have a:(D 42).agg=true:=by kernel_rfl
 simp only [bS] at z a
 refine ⟨fun k=>?_,fun k s=>?_⟩
 all_goals
  simp [bE,mJ,a,z,bS,nK,au,PV.isAgg,sM,PV.cells,PV.storable,PV.mr,PV.pure]
def Ev:List Nd:=[⟨0,0,[],[],false,0⟩,⟨1,0,[],[],false,0⟩,⟨2,0,[],[],false,0⟩,⟨3,0,[],[],false,0⟩]
theorem Sj (v:Vl) (ver:Nat) (t:TypeId) (rest:List Obj):eY 1 0 (⟨t,6,v.map au,true,ver⟩::rest) (.aX 0 ver)=aC v:=wP v ver t rest
theorem xb {n i:Nat}(h:n≤1000000) (hi:i≤1000000):((n+1)*64≤140737488355328∧n≤9223372036854775806)∧((n+1+1)*64≤140737488355328∧n≤9223372036854775805)∧
  ((n+1+1+1)*64≤140737488355328∧n≤9223372036854775804)∧(-9223372036854775808≤(i:Int)+1∧(i:Int)+1≤9223372036854775807):=by omega
theorem Mq (l:List lG) (hl:l.length≤100000) (hn:∀ a ∈ l,a.c.kind=3→Me a.c) (hs:∀ a ∈ l,a.c.s.length≤1000000000):ah Tryz.prog 60 [bP l] [] (aC (gD l)) []:=by
 refine rY.aZ (T:=aO Tryz.prog [(87,kV)]) 1 hD (aj (af I5 ai)) aT (by decide) fun Q hQ=>?_
 (conv=>arg 4;cbv);simp(maxSteps:=400000)only[↓aR,aS,BEq.rfl,reduceIte,reduceCtorEq,Nat.reduceLT,reduceAdd,reduceSub,reduceMul,Nat.reduceBEq,reduceLeDiff,reduceToNat,reduceLE,hQ,TG,rP,rQ]
 refine aF (fun m S=>∃ i ver:Nat,i+m=l.length∧S=⟨cO 98 [(0,bP l),(3,.aX 0 ver),(4,.int .i64 i)],[⟨42,6,(Ev++jw (l.take i)).map au,true,ver⟩]⟩) l.length ⟨0,1,by omega,?_⟩ ?_ (hz:=Nat.zero_le _)
 · simp only [bI,keepR,reduceAdd,kT,Nat.reduceBEq,map_nil]
   rfl
 rintro m S ⟨i,ver,him,rfl⟩
 have zi:(0≤(i:Int))=True:=eq_true (by omega)
 have hcl:=r9 (l.take i)
 rw [List.length_take] at hcl
 rcases lt_or_ge i l.length with h | h
 · have hlt:((i:Int)<(l.length:Int))=True:=eq_true (by omega)
   have hgi:=List.getElem?_eq_getElem h
   have hni:=hn _ (getElem_mem h)
   generalize l[i]=a at hgi hni
   have htk:=GY hgi
   have hA:∀ (A B:List Nd),A.map au++B.map au=(A++B).map au:=fun A B=>by rw [List.map_append]
   by_cases hk:a.c.kind=3
   rotate_left 1
   · have hk':=eq_false hk
     have e1:BA a=[]:=if_neg hk
     rw [e1,append_nil] at htk
     simp(maxSteps:=400000)only[↓aR,aS,BEq.rfl,reduceIte,reduceCtorEq,Nat.reduceLT,reduceAdd,reduceSub,reduceMul,Nat.reduceBEq,reduceLeDiff,reduceToNat,reduceLE,hQ,hlt,zi,hgi,hk',RD,take_succ_cons,take_zero,gI]
     exact ⟨⟨by omega,by omega⟩,m-1,by omega,i+1,ver,by omega,by rw [htk,Int.natCast_add,Int.natCast_one]⟩
   have hk':=eq_true hk
   have hnr:=hni hk
   have e1:=C8 hk
   generalize hX:Ev++jw (l.take i)=X at *
   have hXl:X.length≤1000000:=by rw [← hX,length_append];have:Ev.length=4:=rfl;omega
   have hX':Ev++jw (l.take (i+1))=X++BA a:=by rw [htk,← append_assoc,hX]
   have s1:∀ x:Nd,X.map au++[au x]=(X++[x]).map au:=fun x=>by simp
   have fin:∀ (v:Nat) (Y:List Nd),Ev++jw (l.take (i+1))=Y→∃ m',m'<m∧∃ EN aat:Nat,EN+m'=l.length∧(⟨cO 98 [(0,bP l),(3,.aX 0 v),(4,.int .i64 ((i:Int)+1))],[⟨42,6,Y.map au,true,v⟩]⟩:St)=⟨cO 98 [(0,bP l),(3,.aX 0 aat),(4,.int .i64 EN)],[⟨42,6,(Ev++jw (l.take EN)).map au,true,aat⟩]⟩:=fun v Y hy=>
    ⟨m-1,by omega,i+1,v,by omega,by rw [hy,Int.natCast_add,Int.natCast_one]⟩
   rw [e1] at hX'
   obtain ⟨x1,x2,x3,iw⟩:=xb hXl (Nat.le_trans (Nat.le_of_lt h) (Nat.le_trans hl (by decide:100000≤1000000)))
   cases hb1:(cZ a.c true).2 with
   | false=>
    cases hb2:(cZ a.c false).2 with
    | false=>
     have hX2:=hX'
     simp only [EX,hb1,hb2,Bool.false_eq_true,if_true,if_false,append_nil] at hX2
     simp(maxSteps:=400000)only[↓aR,aS,BEq.rfl,reduceIte,reduceCtorEq,Nat.reduceLT,reduceAdd,reduceSub,reduceMul,Nat.reduceBEq,reduceLeDiff,reduceToNat,reduceLE,hQ,hlt,zi,hgi,hk',↓kV,dL,fQ,hb1,hb2,bf,bg,bC,rP,rQ,uN,RD,take_succ_cons,take_zero,gI,length_append,length_cons,length_nil]
     exact ⟨x1.1,x1.2,hnr,hnr,iw,fin _ _ (by rw [hX2])⟩
    | true=>
     have hX2:=hX'
     simp only [EX,hb1,hb2,Bool.false_eq_true,if_true,if_false,append_nil] at hX2
     simp(maxSteps:=400000)only[↓aR,aS,BEq.rfl,reduceIte,reduceCtorEq,Nat.reduceLT,reduceAdd,reduceSub,reduceMul,Nat.reduceBEq,reduceLeDiff,reduceToNat,reduceLE,hQ,hlt,zi,hgi,hk',↓kV,dL,fQ,hb1,hb2,bf,bg,bC,rP,rQ,uN,RD,take_succ_cons,take_zero,gI,length_append,length_cons,length_nil]
     exact ⟨x1.1,x1.2,hnr,hnr,x2.1,x2.2,iw,fin _ _ (by rw [hX2];simp only [append_assoc])⟩
   | true=>
    cases hb2:(cZ a.c false).2 with
    | false=>
     have hX2:=hX'
     simp only [EX,hb1,hb2,Bool.false_eq_true,if_true,if_false,append_nil] at hX2
     simp(maxSteps:=400000)only[↓aR,aS,BEq.rfl,reduceIte,reduceCtorEq,Nat.reduceLT,reduceAdd,reduceSub,reduceMul,Nat.reduceBEq,reduceLeDiff,reduceToNat,reduceLE,hQ,hlt,zi,hgi,hk',↓kV,dL,fQ,hb1,hb2,bf,bg,bC,rP,rQ,uN,RD,take_succ_cons,take_zero,gI,length_append,length_cons,length_nil]
     exact ⟨x1.1,x1.2,hnr,x2.1,x2.2,hnr,iw,fin _ _ (by rw [hX2];simp only [append_assoc])⟩
    | true=>
     have hX2:=hX'
     simp only [EX,hb1,hb2,Bool.false_eq_true,if_true,if_false,append_nil] at hX2
     simp(maxSteps:=400000)only[↓aR,aS,BEq.rfl,reduceIte,reduceCtorEq,Nat.reduceLT,reduceAdd,reduceSub,reduceMul,Nat.reduceBEq,reduceLeDiff,reduceToNat,reduceLE,hQ,hlt,zi,hgi,hk',↓kV,dL,fQ,hb1,hb2,bf,bg,bC,rP,rQ,uN,RD,take_succ_cons,take_zero,gI,length_append,length_cons,length_nil]
     exact ⟨x1.1,x1.2,hnr,x2.1,x2.2,hnr,x3.1,x3.2,iw,fin _ _ (by rw [hX2];simp only [append_assoc])⟩
 have hi:i=l.length:=by omega
 subst hi
 have hlt:((l.length:Int)<(l.length:Int))=False:=eq_false (by omega)
 rw [List.take_of_length_le (Nat.le_refl _)]
 rw [List.take_of_length_le (Nat.le_refl _)] at hcl
 simp(maxSteps:=400000)only[↓aR,aS,BEq.rfl,reduceIte,reduceCtorEq,Nat.reduceLT,reduceAdd,reduceSub,reduceMul,Nat.reduceBEq,reduceLeDiff,reduceToNat,reduceLE,hQ,hlt,TG,rP,rQ]
 have hc0:Ev.length=4:=rfl
 have hY:(Ev++jw l).map au++[au ⟨4,0,[],[],false,0⟩]=(Ev++jw l++[(⟨4,0,[],[],false,0⟩:Nd)]).map au:=by simp
 rw [hY]
 refine ⟨by omega,by omega,?_⟩
 generalize hX:Ev++jw l++[(⟨4,0,[],[],false,0⟩:Nd)]=X
 have hXl:X.length≤300005:=by rw [← hX];simp [Ev];omega
 refine aF (fun m S=>∃ i ver:Nat,i+m=l.length∧S=⟨cO 98 [(0,bP l),(3,.aX 0 ver),(9,.int .i64 i)],[⟨42,6,(X++kY (l.take i)).map au,true,ver⟩]⟩) l.length ⟨0,ver+1,by omega,?_⟩ ?_
 · simp only [bI,keepR,reduceAdd,kT,Nat.reduceBEq,map_nil]
   simp [kY]
 rintro m' S ⟨i,IG,him',rfl⟩
 have zi:(0≤(i:Int))=True:=eq_true (by omega)
 have hsl:=xk (l.take i)
 rw [List.length_take] at hsl
 rcases lt_or_ge i l.length with h' | h'
 · have hlt:((i:Int)<(l.length:Int))=True:=eq_true (by omega)
   have hgi:=List.getElem?_eq_getElem h'
   have hsi:=hs _ (getElem_mem h')
   generalize l[i]=a at hgi hsi
   have htk:=GZ hgi
   by_cases hk:a.c.kind=4
   · have hk':=eq_true hk
     have e1:BB a=[a.c,⟨4,0,[],a.c.s++[0],false,0⟩]:=if_pos hk
     simp(maxSteps:=400000)only[↓aR,aS,BEq.rfl,reduceIte,reduceCtorEq,Nat.reduceLT,reduceAdd,reduceSub,reduceMul,Nat.reduceBEq,reduceLeDiff,reduceToNat,reduceLE,hQ,hlt,zi,hgi,hk',TG,rP,rQ]
     have hrow:∀ y,y ∈ [au a.c,au ⟨4,0,[],a.c.s++[0],false,0⟩]→y.cells.length=6∧y.cells.all PV.storable=true:=fun y hy=>by
      simp only [List.mem_cons,List.not_mem_nil,or_false] at hy
      rcases hy with rfl | rfl <;> exact ⟨rfl,rfl⟩
     have hXs:X.length+(kY (l.take i)).length≤600000:=by omega
     exact ⟨by omega,hrow,by omega,by omega,rfl,⟨by omega,by omega⟩,m'-1,by omega,i+1,IG+1,by omega,by
      rw [htk,e1,← append_assoc,List.map_append (l₁:=X++kY _),Int.natCast_add,Int.natCast_one];rfl⟩
   · have hk':=eq_false hk
     have e1:BB a=[]:=if_neg hk
     rw [e1,append_nil] at htk
     simp(maxSteps:=400000)only[↓aR,aS,BEq.rfl,reduceIte,reduceCtorEq,Nat.reduceLT,reduceAdd,reduceSub,reduceMul,Nat.reduceBEq,reduceLeDiff,reduceToNat,reduceLE,hQ,hlt,zi,hgi,hk',TG,rP,rQ]
     repeat' (first | omega | exact ⟨m'-1,by omega,i+1,IG,by omega,by rw [htk];rfl⟩ | refine ⟨?_,?_⟩)
 · have hlt:((i:Int)<(l.length:Int))=False:=eq_false (by omega)
   have hr:gD l=X++kY (l.take i):=by
    rw [List.take_of_length_le h',← hX];simp [gD,Ev]
   simp(maxSteps:=400000)only[↓aR,aS,BEq.rfl,reduceIte,reduceCtorEq,Nat.reduceLT,reduceAdd,reduceSub,reduceMul,Nat.reduceBEq,reduceLeDiff,reduceToNat,reduceLE,hQ,hlt,Sj,hr]
def BI:dF:=fun args objs K=>match args with
 | [a0]=>f_ bP a0 (HK.mk:HK fun l=>(l.length≤100000)∧(∀ a ∈ l,a.c.kind=3→Me a.c)∧(∀ a ∈ l,a.c.s.length≤1000000000)∧K (aC (gD l)) objs 0)
 | _=>False
theorem Pv:aD Tryz.prog 60 (BI):=by
 intro args objs K h
 unfold BI at h
 split at h
 · rename_i a0
   obtain ⟨l,rfl,h1,h2,h3,hk⟩:=h
   exact ⟨_,_,_,.pure _ rfl (Mq l h1 h2 h3),hk⟩
 · exact h.elim
def wh:dF:=fun args objs K=>match args with
 | [.int .i64 mask,a1,a2]=>f_ bP a1 (HK.mk:HK fun l=>f_ au a2 (HK.mk:HK fun n=>(0≤mask∧mask≤31)∧(l.length≤1000000)∧(∀ a ∈ l,fu a.c)∧(rV n)∧(n.s.length≤1000000)∧K (.bool (dn mask l n)) objs 0))
 | _=>False
theorem Pw:aD Tryz.prog 37 (wh):=by
 intro args objs K h
 unfold wh at h
 split at h
 · rename_i mask a1 a2
   obtain ⟨l,rfl,n,rfl,h1,h2,h3,h4,h5,hk⟩:=h
   exact ⟨_,_,_,.pure _ rfl (LV mask l n ⟨h1.1,by omega⟩ h2 h3 h4 h5),hk⟩
 · exact h.elim
theorem I6 (mask:Int) (l:List lG) (hm:0≤mask∧mask≤31) (hl:l.length≤100000) (hc:∀ a ∈ l,fu a.c) (hs:∀ a ∈ l,a.c.s.length≤500000):ah Tryz.prog 32 [.int .i64 mask,bP l] [] (ko mask l) []:=by
 refine zy.GX (T:=aO Tryz.prog [(60,BI),(37,wh)]) 0 hD (aj (af Pv (af Pw ai))) aT (by decide) (by decide) fun Q hQ=>?_
 have hcs:=G7 hc hs
 have hnr:∀ a ∈ l,a.c.kind=3→Me a.c:=fun a ha hk=>(hc a ha).num hk
 have hsb:∀ a ∈ l,a.c.s.length≤1000000000:=fun a ha=>by have:=hs a ha;omega
 have hcl:(gD l).length≤1000000:=by
  have h1:=r9 l
  have h2:=xk l
  simp only [gD,length_append,length_cons,length_nil];omega
 (conv=>arg 4;cbv);simp(maxSteps:=400000)only[↓aR,aS,BEq.rfl,reduceIte,reduceCtorEq,Nat.reduceLT,reduceAdd,reduceSub,reduceMul,Nat.reduceBEq,reduceLeDiff,reduceToNat,reduceLE,hQ,↓BI,bf,bg]
 refine ⟨hl,hnr,hsb,?_⟩
 refine aF (fun m S=>∃ i:Nat,i+m=(gD l).length∧(∀ (j:Nat) d,j<i→(gD l)[j]?=some d→dn mask l d=false)∧S=⟨cO 28 [(0,.int .i64 mask),(1,bP l),(4,.bL 0 1 0 0),(6,aC (gD l)),(7,.int .i64 i)],[⟨42,6,[au ⟨0,0,[],[],false,0⟩],true,1⟩]⟩) (gD l).length ⟨0,by omega,fun j d h=>absurd h (Nat.not_lt_zero j),?_⟩ ?_
 · simp only [bI,keepR,reduceAdd,kT,Nat.reduceBEq,map_nil]
   rfl
 rintro m S ⟨i,him,hb,rfl⟩
 have zi:(0≤(i:Int))=True:=eq_true (by omega)
 rcases lt_or_ge i (gD l).length with h | h
 · have hlt:((i:Int)<((gD l).length:Int))=True:=eq_true (by omega)
   have hgi:=List.getElem?_eq_getElem h
   have hsi:=hcs _ (getElem_mem h)
   generalize (gD l)[i]=c at hgi hsi
   cases hmem:dn mask l c with
   | true=>
    have hr:ko mask l=.bV [au c,.bool true]:=by simp [ko,J6 hgi hmem hb]
    simp(maxSteps:=400000)only[↓aR,aS,BEq.rfl,reduceIte,reduceCtorEq,Nat.reduceLT,reduceAdd,reduceSub,reduceMul,Nat.reduceBEq,reduceLeDiff,reduceToNat,reduceLE,hQ,hlt,zi,hgi,↓wh,hmem,bf,bg,bC,rP,rQ,hr]
    repeat' (first | omega | exact hc | exact hsi.1 | exact rfl | refine ⟨?_,?_⟩)
   | false=>
    have hb':∀ (j:Nat) d,j<i+1→(gD l)[j]?=some d→dn mask l d=false:=fun j d hj hd=>by
     rcases lt_or_ge j i with g | g
     · exact hb j d g hd
     · have:j=i:=by omega
       subst this
       rw [hgi] at hd;cases hd;exact hmem
    simp(maxSteps:=400000)only[↓aR,aS,BEq.rfl,reduceIte,reduceCtorEq,Nat.reduceLT,reduceAdd,reduceSub,reduceMul,Nat.reduceBEq,reduceLeDiff,reduceToNat,reduceLE,hQ,hlt,zi,hgi,↓wh,hmem,bf,bg,bC,rP,rQ]
    repeat' (first | omega | exact hc | exact hsi.1 | exact ⟨m-1,by omega,i+1,by omega,hb',rfl⟩ | refine ⟨?_,?_⟩)
 · have hlt:((i:Int)<((gD l).length:Int))=False:=eq_false (by omega)
   have hr:ko mask l=.bV [au ⟨0,0,[],[],false,0⟩,.bool false]:=by
    have:=G6 (mask:=mask) (l:=l) fun j d hd=>hb j d (by have:=(List.getElem?_eq_some_iff.1 hd).1;omega) hd
    simp [ko,this,aW]
   simp(maxSteps:=400000)only[↓aR,aS,BEq.rfl,reduceIte,reduceCtorEq,Nat.reduceLT,reduceAdd,reduceSub,reduceMul,Nat.reduceBEq,reduceLeDiff,reduceToNat,reduceLE,hQ,hlt,bf,bg,rP,rQ,hr]
   repeat' (first | omega | exact rfl | refine ⟨?_,?_⟩)
def ng:dF:=fun args objs K=>match args with
 | [.int .i64 mask,a1]=>f_ bP a1 (HK.mk:HK fun l=>(0≤mask∧mask≤31)∧(l.length≤100000)∧(∀ a ∈ l,fu a.c)∧(∀ a ∈ l,a.c.s.length≤500000)∧K (ko mask l) objs 0)
 | _=>False
theorem BJ:aD Tryz.prog 32 (ng):=by
 intro args objs K h
 unfold ng at h
 split at h
 · rename_i mask a1
   obtain ⟨l,rfl,h1,h2,h3,h4,hk⟩:=h
   exact ⟨_,_,_,.pure _ rfl (I6 mask l h1 h2 h3 h4),hk⟩
 · exact h.elim
end Lp
set_option maxRecDepth 100000
namespace Lp
open Go Go.Proofs
open Nat (reduceAdd reduceLeDiff reduceMul reduceSub)
open Int (reduceLE reduceToNat toNat_natCast)
set_option maxHeartbeats 4000000
theorem J7 {a:lG}(h:nT a=true) (hs:a.c.s.length≤500000):fu a.c:=by
 simp only [nT,Bool.and_eq_true] at h
 exact ⟨h.2,by omega⟩
theorem Px (t:bq) (hs:tY t) (hl5:t.length≤100000) (hc:∀ n ∈ t,n.c.s.length≤500000):ah Tryz.prog 26 [aH t] [] (.bool (qB t)) []:=by
 have hl:=hs.len
 refine Br.aZ (T:=aO Tryz.prog [(48,pY),(49,je),(32,ng)]) 0 hD (aj (af IY (af uL (af BJ ai)))) aT (by decide) fun Q hQ=>?_
 cases hr:fG t with
 | false=>
  have hg:qB t=false:=by simp [qB,hr]
  (conv=>arg 4;cbv);simp(maxSteps:=400000)only[↓ax,ay,BEq.rfl,reduceIte,reduceCtorEq,Nat.reduceLT,reduceAdd,reduceSub,reduceMul,Nat.reduceBEq,reduceLeDiff,reduceToNat,reduceLE,hQ,↓pY,hr,hg]
  exact hs
 | true=>
  have hrt:=JY hr
  have ho:=hrt.one
  have hg:qB t=Y.fq Ht t:=by simp [qB,hr]
  (conv=>arg 4;cbv);simp(maxSteps:=400000)only[↓ax,ay,BEq.rfl,reduceIte,reduceCtorEq,Nat.reduceLT,reduceAdd,reduceSub,reduceMul,Nat.reduceBEq,reduceLeDiff,reduceToNat,reduceLE,hQ,↓pY,hr]
  refine ⟨hs,?_⟩
  refine aF (fun m S=>∃ i:Nat,i+m=t.length∧Y.fq Ht (t.drop i)=qB t∧S=⟨cO 35 [(0,aH t),(3,.int .i64 i)],[]⟩) t.length (hz:=Nat.zero_le _) ⟨0,by omega,by rw [hg];rfl,?_⟩ ?_
  · simp only [bI,keepR,reduceAdd,kT,Nat.reduceBEq,List.map_nil]
    rfl
  rintro m S ⟨i,him,hgd,rfl⟩
  rcases Nat.lt_or_ge i t.length with h | h
  · have hgi:=List.getElem?_eq_getElem h
    have hcx:=hc _ (List.getElem_mem h)
    generalize t[i]=n at hgi hcx
    have hd:=RA hgi
    rw [hgd] at hd
    have zi:(0≤(i:Int))=True:=eq_true (by omega)
    have hlt:((i:Int)<(t.length:Int))=True:=eq_true (by omega)
    have next:qB t=Y.fq Ht (t.drop (i+1))→∃ m',m'<m∧∃ EN:Nat,EN+m'=t.length∧Y.fq Ht (t.drop EN)=qB t∧(⟨cO 35 [(0,aH t),(3,.int .i64 ((i:Int)+1))],[]⟩:St)=⟨cO 35 [(0,aH t),(3,.int .i64 EN)],[]⟩:=fun e=>
     ⟨m-1,by omega,i+1,by omega,e.symm,rfl⟩
    by_cases hk:n.kind=1
    rotate_left 1
    · have hk':=eq_false hk
      have hla:xh t i=true:=by
       obtain ⟨ps,c,_,_,h3,_⟩:=Y.tX ho hgi
       have hd0:=List.drop_eq_getElem_cons h
       rw [List.getElem?_eq_getElem h] at hgi
       cases hgi
       simp only [xh,hd0,h3,Ht]
       simp [hk]
      rw [hla,Bool.true_and] at hd
      have hst:=next hd
      simp(maxSteps:=400000)only[↓ax,ay,BEq.rfl,reduceIte,reduceCtorEq,Nat.reduceLT,reduceAdd,reduceSub,reduceMul,Nat.reduceBEq,reduceLeDiff,reduceToNat,reduceLE,hQ,hlt,zi,hgi,hk']
      repeat' (first | omega | exact hst | refine ⟨?_,?_⟩)
    · have hk':=eq_true hk
      obtain ⟨ps,p1,p2,p3,p4,p5,p6,p7⟩:=TA hrt hgi hk
      have hat:kM t i=ps.flatten.map jy:=by simp only [kM,hgi,hk,if_true,p2]
      have hal:(kM t i).length≤100000:=by rw [hat,List.length_map,p2,List.length_take,List.length_drop];omega
      have hmem:∀ x ∈ ps.flatten,x ∈ t:=fun x hx=>by rw [p2] at hx;exact List.mem_of_mem_drop (List.mem_of_mem_take hx)
      have hsm:∀ a ∈ kM t i,a.c.s.length≤500000:=fun a ha=>by
       rw [hat] at ha
       obtain ⟨x,hx,rfl⟩:=List.mem_map.1 ha
       exact hc x (hmem x hx)
      have hcm:∀ a ∈ kM t i,fu a.c:=fun a ha=>by
       have hsa:=hsm a ha
       rw [hat] at ha
       obtain ⟨x,hx,rfl⟩:=List.mem_map.1 ha
       exact J7 (p7 x hx) hsa
      have hla:xh t i=(mF n.n (kM t i)).2:=by
       have hd0:=List.drop_eq_getElem_cons h
       have hx:=hgi
       rw [List.getElem?_eq_getElem h] at hx
       cases hx
       simp only [xh,hd0,p1,Ht,hat]
       simp [hk]
      rw [hla] at hd
      cases hls:(mF n.n (kM t i)).2 with
      | false=>
       rw [hls] at hd
       have hr2:qB t=false:=by rw [hd];rfl
       simp(maxSteps:=400000)only[↓ax,ay,BEq.rfl,reduceIte,reduceCtorEq,Nat.reduceLT,reduceAdd,reduceSub,reduceMul,Nat.reduceBEq,reduceLeDiff,reduceToNat,reduceLE,hQ,hlt,zi,hgi,hk',↓je,toNat_natCast,↓ng,ko,fQ,bf,bg,rP,rQ,hls,hr2]
       repeat' (first | omega | exact hcm | exact hsm | exact ho | exact rfl | refine ⟨?_,?_⟩)
      | true=>
       rw [hls,Bool.true_and] at hd
       have hst:=next hd
       simp(maxSteps:=400000)only[↓ax,ay,BEq.rfl,reduceIte,reduceCtorEq,Nat.reduceLT,reduceAdd,reduceSub,reduceMul,Nat.reduceBEq,reduceLeDiff,reduceToNat,reduceLE,hQ,hlt,zi,hgi,hk',↓je,toNat_natCast,↓ng,ko,fQ,bf,bg,rP,rQ,hls]
       repeat' (first | omega | exact hcm | exact hsm | exact ho | exact hst | exact rfl | refine ⟨?_,?_⟩)
  · have hlt:((i:Int)<(t.length:Int))=False:=eq_false (by omega)
    have hr2:qB t=true:=by rw [← hgd,List.drop_eq_nil_of_le h];rfl
    simp(maxSteps:=400000)only[↓ax,ay,BEq.rfl,reduceIte,reduceCtorEq,Nat.reduceLT,reduceAdd,reduceSub,reduceMul,Nat.reduceBEq,reduceLeDiff,reduceToNat,reduceLE,hQ,hlt,hr2]
def xq:dF:=fun args objs K=>match args with
 | [a0]=>f_ aH a0 (HK.mk:HK fun t=>(tY t)∧(t.length≤100000)∧(∀ n ∈ t,n.c.s.length≤500000)∧K (.bool (qB t)) objs 0)
 | _=>False
theorem Mr:aD Tryz.prog 26 (xq):=by
 intro args objs K h
 unfold xq at h
 split at h
 · rename_i a0
   obtain ⟨t,rfl,h1,h2,h3,hk⟩:=h
   exact ⟨_,_,_,.pure _ rfl (Px t h1 h2 h3),hk⟩
 · exact h.elim
def Ms (t:bq) (k:Nat):Bool:=decide (t.length≤k) && t.all jr && qB t
theorem Sk (t:bq) (k:Nat) (hk:k≤100000) (hl:t.length≤4611686018427387904) (htx:∀ n ∈ t,n.s.length≤4611686018427387904∧n.name.length≤4611686018427387904∧n.c.s.length≤4611686018427387904) (hcn:∀ n ∈ t,n.c.name.length≤4611686018427387904) :
  ah Tryz.prog 8 [aH t,.int .i64 k] [] (.bool (Ms t k)) []:=by
 refine CZ.aZ (T:=aO Tryz.prog [(25,pW),(26,xq)]) 0 hD (aj (af IW (af Mr ai))) aT (by decide) fun Q hQ=>?_
 cases hsh:(decide (t.length≤k) && t.all jr) with
 | false=>
  have hr:Ms t k=false:=by simp only [Ms,hsh,Bool.false_and]
  (conv=>arg 4;cbv);simp(maxSteps:=400000)only[↓ax,ay,BEq.rfl,reduceIte,reduceCtorEq,Nat.reduceLT,reduceAdd,reduceSub,reduceMul,Nat.reduceBEq,reduceLeDiff,reduceToNat,reduceLE,hQ,↓pW,toNat_natCast,hsh,hr]
  repeat' (first | omega | exact htx | refine ⟨?_,?_⟩)
 | true=>
  have hr:Ms t k=qB t:=by simp only [Ms,hsh,Bool.true_and]
  simp only [Bool.and_eq_true,decide_eq_true_eq,List.all_eq_true] at hsh
  have hsh':(decide (t.length≤k) && t.all jr)=true:=by simp only [Bool.and_eq_true,decide_eq_true_eq,List.all_eq_true];exact hsh
  have hs1:∀ n ∈ t,n.s.length≤100∧n.name.length≤100∧n.c.s.length≤100:=fun n hn=>by
   have:=hsh.2 n hn
   simp only [jr,Bool.and_eq_true,decide_eq_true_eq] at this
   exact ⟨this.1.1,this.1.2,this.2⟩
  have hsm:tY t:=⟨by omega,fun n hn=>by have:=hs1 n hn;exact ⟨by omega,by omega,⟨by omega,hcn n hn⟩⟩⟩
  have hcs:∀ n ∈ t,n.c.s.length≤500000:=fun n hn=>by have:=hs1 n hn;omega
  (conv=>arg 4;cbv);simp(maxSteps:=400000)only[↓ax,ay,BEq.rfl,reduceIte,reduceCtorEq,Nat.reduceLT,reduceAdd,reduceSub,reduceMul,Nat.reduceBEq,reduceLeDiff,reduceToNat,reduceLE,hQ,↓pW,toNat_natCast,hsh',↓xq,hr]
  have hl5:t.length≤100000:=by omega
  repeat' (first | omega | exact htx | exact hsm | exact hcs | refine ⟨?_,?_⟩)
def r_:dF:=fun args objs K=>match args with
 | [a0,.int .i64 k]=>f_ aH a0 (HK.mk:HK fun t=>(0≤k∧k≤100000)∧(t.length≤4611686018427387904)∧(∀ n ∈ t,n.s.length≤4611686018427387904∧n.name.length≤4611686018427387904∧n.c.s.length≤4611686018427387904)∧(∀ n ∈ t,n.c.name.length≤4611686018427387904)∧K (.bool (Ms t k.toNat)) objs 0)
 | _=>False
theorem Py:aD Tryz.prog 8 (r_):=by
 intro args objs K h
 unfold r_ at h
 split at h
 · rename_i a0 k
   obtain ⟨t,rfl,h1,h2,h3,h4,hk⟩:=h
   exact ⟨_,_,_,.pure _ rfl ((by have:=Sk t k.toNat (by omega) h2 h3 h4;rwa [Int.toNat_of_nonneg h1.1] at this)),hk⟩
 · exact h.elim
end Lp
set_option maxRecDepth 100000
namespace Lp
open Go Go.Proofs
open List (length_cons length_drop length_nil map_map map_nil)
open Nat (reduceAdd reduceLeDiff reduceMul reduceSub)
open Int (reduceLE reduceToNat)
set_option maxHeartbeats 4000000
def Ew (l:List bq) (ver:Nat):Obj:=⟨23,1,l.map aH,true,ver⟩
theorem C9 (f:PV→PV) (hf:∀ l,f (aH l)=aH l) (D:List bq):(D.map aH).map (PV.bF f)=D.map aH:=by
 rw [map_map]
 exact List.map_congr_left fun x _=>hf x
theorem Pz (f:PV→PV) (hf:∀ x:fK,(bB x).bF f=bB x) (D:bq):(D.map bB).map (PV.bF f)=D.map bB:=by
 rw [map_map]
 exact List.map_congr_left fun x _=>hf x
theorem Zj (o:Obj) (D:bq) (ver:Nat) (t:TypeId) (rest:List Obj):eY 1 1 (o::⟨t,11,D.map bB,true,ver⟩::rest) (.aX 1 ver)=aH D:=by
 simp only [eY,Nat.lt_irrefl,if_false,fM,List.getElem?_cons_succ,List.getElem?_cons_zero,Nat.le_refl,decide_true,Bool.true_and,beq_self_eq_true,if_true,Pz (fM 0 1 _) (fun _=>rfl)]
 rfl
theorem X7 (o:Obj) (x:fK) (q:bq) (ver:Nat) (t:TypeId) (rest:List Obj):eY 1 1 (o::⟨t,11,bB x::q.map bB,true,ver⟩::rest) (.aX 1 ver)=aH (x::q):=Zj o (x::q) ver t rest
theorem PD (d n:Nat) (X:List Obj) (T:TypeId) (D:List bq) (u:Nat):fO d n X ⟨T,1,D.map aH,true,u⟩=⟨T,1,D.map aH,true,u⟩:=by
 simp only [fO,C9 (eY d n X) (fun _=>rfl)]
theorem TH (D:List bq) (ver:Nat) (t:TypeId) (rest:List Obj):eY 1 0 (⟨t,1,D.map aH,true,ver⟩::rest) (.aX 0 ver)=kJ D:=by
 simp only [eY,Nat.not_lt_zero,if_false,fM,List.getElem?_cons_zero,Nat.le_refl,decide_true,Bool.true_and,beq_self_eq_true,if_true,C9 (fM 0 0 _) (fun _=>rfl)]
 rfl
theorem uq (t:bq) (ho:Y.One t):∃ n r ps,t=n::r∧0≤n.many∧Y.parts n.many.toNat r=some ps∧ps.flatten=r∧(∀ p ∈ ps,Y.One p)∧Y.partsOf n r=ps∧n.many=(ps.length:Int)∧ps.length≤r.length:=by
 obtain ⟨n,r,rfl⟩:∃ n r,t=n::r:=by
  cases t with
  | nil=>exact absurd rfl ho.ne
  | cons n r=>exact ⟨n,r,rfl⟩
 obtain ⟨hm,ps,h1,h2,h3⟩:=ho.parts
 have hl:=Y.bQ _ _ _ h1
 exact ⟨n,r,ps,rfl,hm,h1,h2,h3,by simp [Y.partsOf,h1],by omega,by have:=Y.gm _ _ _ h1;omega⟩
theorem I7 (t:bq) (ho:Y.One t) (hl:t.length≤1000000):ah Tryz.prog 20 [aH t] [] (kJ (bM t)) []:=by
 obtain ⟨n,r,ps,hv,hm,hp,hfl,hps,hpo,hmn,Ik⟩:=uq t ho
 have hg0:t[0]?=some n:=by rw [hv];rfl
 have hr:bM t=if n.kind=1 then [] else ps.map Y.jf:=by rw [hv,bM,hpo]
 have hd1:t.drop 1=r:=by rw [hv];rfl
 have hrl:r.length+1=t.length:=by rw [hv];rfl
 have hpl:=Y.bQ _ _ _ hp
 refine zA.aZ (T:=aO Tryz.prog [(45,eH)]) 1 hD (aj (af l7 ai)) aT (by decide) fun Q hQ=>?_
 (conv=>arg 4;cbv);simp(maxSteps:=400000)only[↓ax,ay,BEq.rfl,reduceIte,reduceCtorEq,Nat.reduceLT,reduceAdd,reduceSub,reduceMul,Nat.reduceBEq,reduceLeDiff,reduceToNat,reduceLE,hQ,iE]
 refine aF (fun m S=>∃ (i ver:Nat) (done:List bq) (rest:List bq),m=rest.length∧(done=[]∨n.kind≠1)∧done.length+rest.length=ps.length∧done++rest.map Y.jf=ps.map Y.jf∧Y.parts rest.length (t.drop i)=some rest∧
  S=⟨cO 47 [(0,aH t),(3,.aX 0 ver),(4,.int .i64 i),(5,.int .i64 done.length)],[⟨23,1,done.map aH,true,ver⟩]⟩) ps.length ⟨1,1,[],ps,rfl,.inl rfl,by simp,rfl,by rw [hd1,hpl];exact hp,?_⟩ ?_
 · simp only [bI,keepR,reduceAdd,kT,Nat.reduceBEq,map_nil]
   rfl
 rintro m S ⟨i,ver,done,rest,rfl,hdn,hdl,hdr,hrp,rfl⟩
 cases rest with
 | nil=>
  simp only [length_nil,Nat.add_zero] at hdl
  have hlt:((done.length:Int)<(ps.length:Int))=False:=eq_false (by omega)
  simp only [map_nil,List.append_nil] at hdr
  have hres:bM t=done:=by
   rw [hr]
   split
   · rename_i h1;exact (hdn.resolve_right (fun h=>h h1)).symm
   · exact hdr.symm
  simp(maxSteps:=400000)only[↓ax,ay,BEq.rfl,reduceIte,reduceCtorEq,Nat.reduceLT,reduceAdd,reduceSub,reduceMul,Nat.reduceBEq,reduceLeDiff,reduceToNat,reduceLE,hQ,hg0,hmn,hlt,TH,hres]
 | cons p qs=>
  obtain ⟨c,Zu,h1,h2,h3⟩:=Y.dN (k:=qs.length) hrp
  simp only [List.cons.injEq] at h2
  obtain ⟨hp1,rfl⟩:=h2
  simp only [length_cons] at hdl
  have hlt:((done.length:Int)<(ps.length:Int))=True:=eq_true (by omega)
  by_cases hk:n.kind=1
  · have hk':=eq_true hk
    have hd:=hdn.resolve_right (fun h=>h hk)
    have hres:bM t=done:=by rw [hr,if_pos hk,hd]
    simp(maxSteps:=400000)only[↓ax,ay,BEq.rfl,reduceIte,reduceCtorEq,Nat.reduceLT,reduceAdd,reduceSub,reduceMul,Nat.reduceBEq,reduceLeDiff,reduceToNat,reduceLE,hQ,hg0,hmn,hlt,hk',TH,hres]
  rw [if_neg hk] at hr
  have hk':=eq_false hk
  have hc:=Y.dG _ _ _ h1
  simp only [length_drop] at hc
  have hnx:pV t i=(i+c:Nat):=v_ (Y.lT _ _ _ _ h1 (by omega))
  have zi:(0≤(i:Int))=True:=eq_true (by omega)
  have c1:((i:Int)≤((i+c:Nat):Int))=True:=eq_true (by omega)
  have c2:(((i+c:Nat):Int)≤(t.length:Int))=True:=eq_true (by omega)
  have hpe:List.drop i (List.take (i+c) t)=p:=by
   rw [List.drop_take,hp1,show i+c-i=c by omega]
  obtain ⟨x,q,hxq⟩:∃ x q,p=x::q:=by
   cases hh:p with
   | nil=>rw [hh] at hp1;have:=congrArg List.length hp1;simp at this;omega
   | cons x q=>exact ⟨x,q,rfl⟩
  have acu:p.length≤t.length:=by rw [hp1,List.length_take,length_drop];omega
  have hsz:∀ y:fK,y ∈ (x::q:bq)→(bB y).cells.length=11∧(bB y).cells.all PV.storable=true:=fun y _=>⟨rfl,rfl⟩
  rw [hxq] at hpe acu
  simp only [length_cons] at acu
  simp(maxSteps:=400000)only[↓ax,ay,BEq.rfl,reduceIte,reduceCtorEq,Nat.reduceLT,reduceAdd,reduceSub,reduceMul,Nat.reduceBEq,reduceLeDiff,reduceToNat,reduceLE,hQ,hg0,hmn,hlt,hk',↓eH,Int.toNat_natCast,hnx,zi,c1,c2,hpe,iE,iI,Bv,bC,dY,List.set_cons_zero]
  refine ⟨by omega,hl,fun y hy=>?_,by omega,by omega,by omega,by omega,?_⟩
  · have:y ∈ (x::q:bq).map bB:=hy
    obtain ⟨z,_,rfl⟩:=List.mem_map.1 this
    exact ⟨rfl,rfl⟩
  refine aQ _ (Weak.freeze 1 1 (Nat.zero_le _) _) ?_
  simp(maxSteps:=400000)only[↓ax,ay,BEq.rfl,reduceIte,reduceCtorEq,Nat.reduceLT,reduceAdd,reduceSub,reduceMul,Nat.reduceBEq,reduceLeDiff,reduceToNat,reduceLE,hQ,X7,RD,PD,List.take_succ_cons,List.take_zero]
  have ada:Y.jf p={ x with name:=[] }::q:=by rw [hxq];rfl
  refine ⟨by omega,by omega,⟨by omega,by omega⟩,qs.length,by omega,i+c,ver+1,done++[Y.jf p],qs,rfl,.inr hk,by simp only [List.length_append,length_cons,length_nil];omega,by rw [← hdr];simp,by rw [← List.drop_drop];exact h3,?_⟩
  rw [ada]
  simp
def uw:dF:=fun args objs K=>match args with
 | [a0]=>f_ aH a0 (HK.mk:HK fun t=>(Y.One t)∧(t.length≤1000000)∧K (kJ (bM t)) objs 0)
 | _=>False
theorem I8:aD Tryz.prog 20 (uw):=by
 intro args objs K h
 unfold uw at h
 split at h
 · rename_i a0
   obtain ⟨t,rfl,h1,h2,hk⟩:=h
   exact ⟨_,_,_,.pure _ rfl (I7 t h1 h2),hk⟩
 · exact h.elim
theorem Mt (t:bq) (ho:Y.One t) (hl:t.length≤1000000):ah Tryz.prog 24 [aH t] [] (cK (gU t)) []:=by
 obtain ⟨n,r,ps,hv,hm,hp,hfl,hps,hpo,hmn,Ik⟩:=uq t ho
 have hg0:t[0]?=some n:=by rw [hv];rfl
 have hr:gU t=if n.kind=2 then ps.map Y.nameOf else []:=by rw [hv,gU,hpo]
 have hd1:t.drop 1=r:=by rw [hv];rfl
 have hrl:r.length+1=t.length:=by rw [hv];rfl
 have hpl:=Y.bQ _ _ _ hp
 refine zB.aZ (T:=aO Tryz.prog [(45,eH)]) 1 hD (aj (af l7 ai)) aT (by decide) fun Q hQ=>?_
 (conv=>arg 4;cbv);simp(maxSteps:=400000)only[↓ax,ay,BEq.rfl,reduceIte,reduceCtorEq,Nat.reduceLT,reduceAdd,reduceSub,reduceMul,Nat.reduceBEq,reduceLeDiff,reduceToNat,reduceLE,hQ]
 refine aF (fun m S=>∃ (i ver:Nat) (done:List (List UInt8)) (rest:List bq),m=rest.length∧(done=[]∨n.kind=2)∧done.length+rest.length=ps.length∧done++rest.map Y.nameOf=ps.map Y.nameOf∧Y.parts rest.length (t.drop i)=some rest∧
  S=⟨cO 34 [(0,aH t),(3,.aX 0 ver),(4,.int .i64 i),(5,.int .i64 done.length)],[⟨9,1,done.map .str,true,ver⟩]⟩) ps.length ⟨1,1,[],ps,rfl,.inl rfl,by simp,rfl,by rw [hd1,hpl];exact hp,?_⟩ ?_
 · simp only [bI,keepR,reduceAdd,kT,Nat.reduceBEq,map_nil]
   rfl
 rintro m S ⟨i,ver,done,rest,rfl,hdn,hdl,hdr,hrp,rfl⟩
 have ef:eY 1 0 [⟨9,1,done.map .str,true,ver⟩] (.aX 0 ver)=cK done:=by
  have:(done.map PV.str).map (PV.bF (fM 0 0 [⟨9,1,done.map .str,true,ver⟩]))=done.map PV.str:=by
   rw [map_map];exact List.map_congr_left fun x _=>rfl
  simp only [eY,Nat.not_lt_zero,if_false,fM,List.getElem?_cons_zero,Nat.le_refl,decide_true,Bool.true_and,beq_self_eq_true,if_true,this]
  rfl
 cases rest with
 | nil=>
  simp only [length_nil,Nat.add_zero] at hdl
  have hlt:((done.length:Int)<(ps.length:Int))=False:=eq_false (by omega)
  simp only [map_nil,List.append_nil] at hdr
  have hres:gU t=done:=by
   rw [hr]
   split
   · exact hdr.symm
   · rename_i h1;exact (hdn.resolve_right h1).symm
  simp(maxSteps:=400000)only[↓ax,ay,BEq.rfl,reduceIte,reduceCtorEq,Nat.reduceLT,reduceAdd,reduceSub,reduceMul,Nat.reduceBEq,reduceLeDiff,reduceToNat,reduceLE,hQ,hg0,hmn,hlt,ef,hres]
 | cons p qs=>
  obtain ⟨c,Zu,h1,h2,h3⟩:=Y.dN (k:=qs.length) hrp
  simp only [List.cons.injEq] at h2
  obtain ⟨hp1,rfl⟩:=h2
  simp only [length_cons] at hdl
  have hlt:((done.length:Int)<(ps.length:Int))=True:=eq_true (by omega)
  by_cases hk:n.kind=2
  rotate_left 1
  · have hk':=eq_false hk
    have hd:=hdn.resolve_right hk
    have hres:gU t=done:=by rw [hr,if_neg hk,hd]
    simp(maxSteps:=400000)only[↓ax,ay,BEq.rfl,reduceIte,reduceCtorEq,Nat.reduceLT,reduceAdd,reduceSub,reduceMul,Nat.reduceBEq,reduceLeDiff,reduceToNat,reduceLE,hQ,hg0,hmn,hlt,hk',ef,hres]
  rw [if_pos hk] at hr
  have hc:=Y.dG _ _ _ h1
  simp only [length_drop] at hc
  have hnx:pV t i=(i+c:Nat):=v_ (Y.lT _ _ _ _ h1 (by omega))
  have zi:(0≤(i:Int))=True:=eq_true (by omega)
  have hil:i<t.length:=by omega
  have hgi:=List.getElem?_eq_getElem hil
  have hdi:=List.drop_eq_getElem_cons hil
  generalize t[i]=pn at hgi hdi
  have hname:Y.nameOf p=pn.name:=by
   obtain ⟨w,hw⟩:∃ w,c=w+1:=⟨c-1,by omega⟩
   rw [hp1,hdi,hw];rfl
  simp(maxSteps:=400000)only[↓ax,ay,BEq.rfl,reduceIte,reduceCtorEq,Nat.reduceLT,reduceAdd,reduceSub,reduceMul,Nat.reduceBEq,reduceLeDiff,reduceToNat,reduceLE,hQ,hg0,hmn,hlt,hk,↓eH,Int.toNat_natCast,hnx,zi,hgi]
  refine ⟨by omega,by omega,by omega,hl,⟨by omega,by omega⟩,qs.length,by omega,i+c,ver+1,done++[pn.name],qs,rfl,by simp only [List.length_append,length_cons,length_nil];omega,by rw [← hdr,List.map_cons,hname];simp,by rw [← List.drop_drop];exact h3,by simp⟩
def uz:dF:=fun args objs K=>match args with
 | [a0]=>f_ aH a0 (HK.mk:HK fun t=>(Y.One t)∧(t.length≤1000000)∧K (cK (gU t)) objs 0)
 | _=>False
theorem I9:aD Tryz.prog 24 (uz):=by
 intro args objs K h
 unfold uz at h
 split at h
 · rename_i a0
   obtain ⟨t,rfl,h1,h2,hk⟩:=h
   exact ⟨_,_,_,.pure _ rfl (Mt t h1 h2),hk⟩
 · exact h.elim
end Lp
set_option maxRecDepth 100000
namespace Lp
open Go Go.Proofs
set_option maxHeartbeats 4000000
def Zk (x:PV) (l:List Vl):Prop:=x=dh l∨(x=.sl 0 [] (some true)∧l=[])
theorem Mv (a:List Vl) (P:List Vl→Prop):(∃ l,Zk (dh a) l∧P l)=P a:=by
 apply propext
 constructor
 · rintro ⟨l,h | ⟨h,_⟩,hp⟩
   · rw [vL _ _ h];exact hp
   · simp [dh] at h
 · exact fun h=>⟨a,.inl rfl,h⟩
theorem Sl (P:List Vl→Prop):(∃ l,Zk (.sl 0 [] (some true)) l∧P l)=P []:=by
 apply propext
 constructor
 · rintro ⟨l,h | ⟨_,rfl⟩,hp⟩
   · simp [dh] at h
   · exact hp
 · exact fun h=>⟨[],.inr ⟨rfl,rfl⟩,h⟩
theorem TI {f:FuncId}{r:PV}(h:ah Tryz.prog f [dh []] [] r []):ah Tryz.prog f [.sl 0 [] (some true)] [] r []:=by
 refine h.arg rfl fun i p q hp hq=>?_
 match i with
 | 0=>cases hp;cases hq;exact mW 0 1
 | _+1=>simp at hp
def wm:dF:=fun args objs K=>match args with
 | [x]=>∃ l,Zk x l∧l.length≤1000000∧l.flatten.length≤1000000∧K (aC (kX l)) objs 0
 | _=>False
theorem PE:aD Tryz.prog 22 wm:=by
 intro args objs K h
 unfold wm at h
 split at h
 · obtain ⟨l,hx,h1,h2,hk⟩:=h
   rcases hx with rfl | ⟨rfl,rfl⟩
   · exact ⟨_,_,_,.pure _ rfl (JO l h1 h2),hk⟩
   · exact ⟨_,_,_,.pure _ rfl (TI (JO [] (Nat.zero_le _) (Nat.zero_le _))),hk⟩
 · exact h.elim
def nS:dF:=fun args objs K=>match args with
 | [x]=>∃ l,Zk x l∧l.length≤1000000∧l.flatten.length≤1000000∧K (aC (kX l)) objs 0
 | _=>False
theorem G9:aD Tryz.prog 29 nS:=by
 intro args objs K h
 unfold nS at h
 split at h
 · obtain ⟨l,hx,h1,h2,hk⟩:=h
   rcases hx with rfl | ⟨rfl,rfl⟩
   · exact ⟨_,_,_,.pure _ rfl (AU l h1 h2),hk⟩
   · exact ⟨_,_,_,.pure _ rfl (TI (AU [] (Nat.zero_le _) (Nat.zero_le _))),hk⟩
 · exact h.elim
end Lp
set_option maxRecDepth 100000
namespace Lp
open Go Go.Proofs
open List (length_cons length_map length_take mem_cons_of_mem)
open Nat (reduceAdd reduceLeDiff reduceMul reduceSub zero_le)
open Int (reduceEq reduceLE reduceToNat)
set_option maxHeartbeats 4000000
structure jl (t:bq):Prop where
 rt:PX bH iO t
 len:t.length≤100000
 cs:∀ n ∈ t,n.c.s.length≤500000
 nm:∀ n ∈ t,n.name.length≤4611686018427387904
theorem jl.part {n:fK}{r:bq}(h:jl (n::r)):∀ p ∈ bM (n::r),jl p∧p.length≤r.length:=by
 intro p hp
 have h1:=h.rt.part p hp
 have hl:=h.len
 simp only [length_cons] at hl
 refine ⟨⟨h1.1,by omega,?_,?_⟩,h1.2⟩
 all_goals
  by_cases hk:n.kind=1
  · simp only [bM,hk,if_true] at hp;cases hp
  simp only [bM,hk,if_false] at hp
  obtain ⟨_,_,ps,h3,h4,_⟩:=h.rt.parts
  rw [jR h3] at hp
  obtain ⟨q,hq,rfl⟩:=List.mem_map.1 hp
  have hr:∀ x ∈ q,x ∈ r:=fun x hx=>by rw [← h4];exact List.mem_flatten.2 ⟨q,hq,hx⟩
  intro x hx
  cases q with
  | nil=>cases hx
  | cons y z=>
   rcases List.mem_cons.1 hx with rfl | hx
   · first
      | exact h.cs y (mem_cons_of_mem _ (hr y (List.mem_cons_self ..)))
      | exact zero_le _
   · first
      | exact h.cs x (mem_cons_of_mem _ (hr x (mem_cons_of_mem _ hx)))
      | exact h.nm x (mem_cons_of_mem _ (hr x (mem_cons_of_mem _ hx)))
theorem jl.atoms {n:fK}{r:bq}(h:jl (n::r)) (hk:n.kind=1):(0≤n.n∧n.n≤31)∧(iA (n::r)).length≤100000∧(∀ a ∈ iA (n::r),fu a.c)∧(∀ a ∈ iA (n::r),a.c.s.length≤500000):=by
 obtain ⟨ps,p1,p2,p3,p4,p5,p6,p7⟩:=TA (i:=0) h.rt rfl hk
 have hl:=h.len
 simp only [length_cons,List.drop_succ_cons,List.drop_zero] at hl p1 p2 p4
 have ha:iA (n::r)=ps.flatten.map jy:=by simp only [iA,hk,if_true,p2]
 have hm:∀ x ∈ ps.flatten,x ∈ r:=fun x hx=>by rw [p2] at hx;exact List.mem_of_mem_take hx
 have hs:∀ a ∈ iA (n::r),a.c.s.length≤500000:=fun a h'=>by
  rw [ha] at h'
  obtain ⟨x,hx,rfl⟩:=List.mem_map.1 h'
  exact h.cs x (mem_cons_of_mem _ (hm x hx))
 refine ⟨⟨by omega,by omega⟩,?_,fun a h'=>?_,hs⟩
 · rw [ha,length_map,p2,length_take];omega
 · have h2:=hs a h'
   rw [ha] at h'
   obtain ⟨x,hx,rfl⟩:=List.mem_map.1 h'
   exact J7 (p7 x hx) h2
theorem l_ (l:List Vl) (ver:Nat) (t:TypeId) (rest:List Obj):eY 1 0 (⟨t,1,l.map aC,true,ver⟩::rest) (.aX 0 ver)=dh l:=by
 have:(l.map aC).map (PV.bF (fM 0 0 (⟨t,1,l.map aC,true,ver⟩::rest)))=l.map aC:=by
  rw [List.map_map];exact List.map_congr_left fun x _=>rfl
 simp only [eY,Nat.not_lt_zero,if_false,fM,List.getElem?_cons_zero,Nat.le_refl,decide_true,Bool.true_and,beq_self_eq_true,if_true,this]
 rfl
theorem PG {n:fK}{r:bq}(h:jl (n::r)):(bM (n::r)).length≤100000∧((bM (n::r)).map dB).flatten.length≤100000:=by
 have h1:=uV h.rt
 have hl:=h.len
 simp only [length_cons] at hl
 have:∀ qs:List bq,(∀ q ∈ qs,(dB q).length≤q.length)→(qs.map dB).flatten.length≤qs.flatten.length:=by
  intro qs
  induction qs with
  | nil=>intro _;simp
  | cons a t ih=>
   intro hq
   have h1:=hq a (List.mem_cons_self ..)
   have h2:=ih fun q hx=>hq q (mem_cons_of_mem _ hx)
   simp only [List.map_cons,List.flatten_cons,List.length_append];omega
 have h2:=this _ fun q hq=>(zO (h.rt.part q hq).1).1
 omega
theorem jl.names {n:fK}{r:bq}(h:jl (n::r)):(gU (n::r)).length≤100000∧∀ s ∈ gU (n::r),s.length≤4611686018427387904:=by
 have hl:=h.len
 simp only [length_cons] at hl
 by_cases hk:n.kind=2
 · obtain ⟨_,_,ps,h3,h4,_⟩:=h.rt.parts
   have e:gU (n::r)=ps.map Y.nameOf:=by simp only [gU,hk,if_true,jR h3]
   have h1:=uV h.rt
   have e2:bM (n::r)=ps.map Y.jf:=by simp only [bM,hk,jR h3];rfl
   rw [e2,length_map] at h1
   rw [e]
   refine ⟨by rw [length_map];omega,fun s hs=>?_⟩
   obtain ⟨q,hq,rfl⟩:=List.mem_map.1 hs
   cases q with
   | nil=>exact zero_le _
   | cons y z=>exact h.nm y (mem_cons_of_mem _ (by rw [← h4];exact List.mem_flatten.2 ⟨_,hq,List.mem_cons_self ..⟩))
 · have e:gU (n::r)=[]:=by simp [gU,hk]
   rw [e];exact ⟨zero_le _,fun s hs=>by cases hs⟩
theorem J8:∀ (f:Nat) (t:bq),t.length≤f→jl t→ah Tryz.prog 12 [aH t] [] (aC (dB t)) []
 | 0,t,h,hw=>absurd (List.length_eq_zero_iff.1 (by omega)) hw.rt.one.ne
 | f+1,[],_,hw=>absurd rfl hw.rt.one.ne
 | f+1,n::r,h,hw=>by
  have hok:aD Tryz.prog 12 (fun args objs K=>match args with | [a]=>f_ aH a (HK.mk:HK fun p=>p.length≤f∧jl p∧K (aC (dB p)) objs 0) | _=>False):=by
   intro args objs K h
   split at h
   · obtain ⟨p,rfl,h1,h2,hk⟩:=h
     exact ⟨_,_,_,.pure _ rfl (J8 f p h1 h2),hk⟩
   · exact h.elim
  refine Ep.aZ (T:=aO Tryz.prog [(20,uw),(24,uz),(33,tZ),(32,ng),(23,oH),(22,wm),(12,_)]) 0 hD (aj (af I8 (af I9 (af I4 (af BJ (af Em (af PE (af hok ai)))))))) aT (by decide) fun Q hQ=>?_
  simp only [length_cons] at h
  have hl:=hw.len
  have ho:=hw.rt.one
  have hwp:=hw.part
  have hwl:=PG hw
  have hE:=Kg hw.rt
  have hg0:(n::r)[0]?=some n:=rfl
  have hA:=hw.atoms
  have hN:=hw.names
  have hNo:=hw.rt.names
  generalize hps:bM (n::r)=ps at *
  generalize hT:n::r=T at *
  let acA:dF:=fun args objs K=>match args with | [a]=>f_ aH a (HK.mk:HK fun p=>p.length≤f∧jl p∧K (aC (dB p)) objs 0) | _=>False
  have adj:∀ (p:bq) (objs:List Obj) (K:KT),(match ([aH p]:List PV) with | [a]=>f_ aH a (HK.mk:HK fun p=>p.length≤f∧jl p∧K (aC (dB p)) objs 0) | _=>False)=(p.length≤f∧jl p∧K (aC (dB p)) objs 0):=fun p objs K=>aM oZ _ _
  have hTl:T.length=r.length+1:=by rw [← hT];rfl
  (conv=>arg 4;cbv);simp(maxSteps:=400000)only[↓ax,ay,BEq.rfl,reduceIte,reduceCtorEq,Nat.reduceLT,reduceAdd,reduceSub,reduceMul,Nat.reduceBEq,reduceLeDiff,reduceToNat,reduceLE,hQ,↓uw,hps]
  refine ⟨ho,by omega,?_⟩
  refine aF (fun m S=>∃ (i ver:Nat),i+m=ps.length∧S=⟨cO 68 [(0,aH T),(3,.aX 0 ver),(4,kJ ps),(5,.int .i64 i)],[⟨28,1,((ps.take i).map dB).map aC,true,ver⟩]⟩) ps.length ⟨0,1,by omega,?_⟩ ?_
  · simp only [bI,keepR,reduceAdd,kT,Nat.reduceBEq,List.map_nil]
    rfl
  rintro m S ⟨i,ver,him,rfl⟩
  have zi:(0≤(i:Int))=True:=eq_true (by omega)
  rcases Nat.lt_or_ge i ps.length with h' | h'
  · have hlt:((i:Int)<(ps.length:Int))=True:=eq_true (by omega)
    have hgi:=List.getElem?_eq_getElem h'
    have hpi:=hwp _ (List.getElem_mem h')
    generalize ps[i]=p at hgi hpi
    have htk:(ps.take (i+1)).map dB=(ps.take i).map dB++[dB p]:=by rw [List.take_add_one,hgi];simp
    have ht2:((ps.take i).map dB).length=i:=by rw [length_map,length_take];omega
    have ht3:(ps.take i).length=i:=by rw [length_take];omega
    simp(maxSteps:=400000)only[↓ax,ay,BEq.rfl,reduceIte,reduceCtorEq,Nat.reduceLT,reduceAdd,reduceSub,reduceMul,Nat.reduceBEq,reduceLeDiff,reduceToNat,reduceLE,hQ,hlt,zi,hgi]
    exact ⟨by have:=hpi.2;omega,hpi.1,by rw [ht3];omega,by rw [ht3];omega,⟨by omega,by omega⟩,m-1,by omega,i+1,ver+1,by omega,by rw [htk,List.map_append,Int.natCast_add,Int.natCast_one];rfl⟩
  · have hlt:((i:Int)<(ps.length:Int))=False:=eq_false (by omega)
    have hi:i=ps.length:=by omega
    subst hi
    have htk:ps.take ps.length=ps:=List.take_length
    simp(maxSteps:=400000)only[↓ax,ay,BEq.rfl,reduceIte,reduceCtorEq,Nat.reduceLT,reduceAdd,reduceSub,reduceMul,Nat.reduceBEq,reduceLeDiff,reduceToNat,reduceLE,hQ,hlt,htk]
    refine aQ _ (Weak.freeze 1 0 (zero_le _) _) ?_
    by_cases k0:n.kind=0
    · have hr:dB T=[aW]:=by rw [hE];simp [k0]
      simp(maxSteps:=400000)only[↓ax,ay,BEq.rfl,reduceIte,reduceCtorEq,Nat.reduceLT,reduceAdd,reduceSub,reduceMul,Nat.reduceBEq,reduceLeDiff,reduceToNat,reduceLE,hQ,l_,hg0,bf,bg,rP,rQ,bC,reduceEq,k0,hr]
      rfl
    have n0:=eq_false k0
    by_cases k1:n.kind=1
    · have hr:dB T=[(mF n.n (iA T)).1]:=by rw [hE];simp [k1]
      simp(maxSteps:=400000)only[↓ax,ay,BEq.rfl,reduceIte,reduceCtorEq,Nat.reduceLT,reduceAdd,reduceSub,reduceMul,Nat.reduceBEq,reduceLeDiff,reduceToNat,reduceLE,hQ,l_,hg0,bf,bg,rP,rQ,bC,reduceEq,n0,k1,↓tZ,↓ng,ko,fQ,hr]
      obtain ⟨a1,a2,a3,a4⟩:=hA k1
      exact ⟨by omega,ho,a1,a2,a3,a4,rfl⟩
    have n1:=eq_false k1
    by_cases k2:n.kind=2
    · have hr:dB T=gy (gU T) (ps.map dB):=by rw [hE];simp [k2]
      simp(maxSteps:=400000)only[↓ax,ay,BEq.rfl,reduceIte,reduceCtorEq,Nat.reduceLT,reduceAdd,reduceSub,reduceMul,Nat.reduceBEq,reduceLeDiff,reduceToNat,reduceLE,hQ,l_,hg0,bf,bg,rP,rQ,bC,reduceEq,n0,n1,k2,↓uz,↓oH,fQ,hr]
      refine ⟨ho,by omega,by have:=hN.1;omega,by omega,by omega,fun v hv=>?_,hN.2⟩
      obtain ⟨q,hq,rfl⟩:=List.mem_map.1 hv
      exact (zO (hwp q hq).1.rt).2
    have n2:=eq_false k2
    by_cases k3:n.kind=3
    · have hr:dB T=[⟨6,0,[],[],false,0⟩]:=by rw [hE];simp [k3]
      simp(maxSteps:=400000)only[↓ax,ay,BEq.rfl,reduceIte,reduceCtorEq,Nat.reduceLT,reduceAdd,reduceSub,reduceMul,Nat.reduceBEq,reduceLeDiff,reduceToNat,reduceLE,hQ,l_,hg0,bf,bg,rP,rQ,bC,reduceEq,n0,n1,n2,k3,hr]
    have n3:=eq_false k3
    by_cases k4:n.kind=4
    · have hr:dB T=kX (ps.map dB):=by rw [hE];simp [k4]
      simp(maxSteps:=400000)only[↓ax,ay,BEq.rfl,reduceIte,reduceCtorEq,Nat.reduceLT,reduceAdd,reduceSub,reduceMul,Nat.reduceBEq,reduceLeDiff,reduceToNat,reduceLE,hQ,l_,hg0,bf,bg,rP,rQ,bC,reduceEq,n0,n1,n2,n3,k4,↓wm,Mv,Sl,hr]
      exact ⟨by omega,by omega⟩
    have n4:=eq_false k4
    have hr:dB T=kX []:=by rw [hE];simp [k0,k1,k2,k3,k4]
    simp(maxSteps:=400000)only[↓ax,ay,BEq.rfl,reduceIte,reduceCtorEq,Nat.reduceLT,reduceAdd,reduceSub,reduceMul,Nat.reduceBEq,reduceLeDiff,reduceToNat,reduceLE,hQ,l_,hg0,bf,bg,rP,rQ,bC,reduceEq,n0,n1,n2,n3,n4,↓wm,Mv,Sl,hr]
    exact zero_le _
def xu:dF:=fun args objs K=>match args with
 | [a0]=>f_ aH a0 (HK.mk:HK fun t=>(jl t)∧K (aC (dB t)) objs 0)
 | _=>False
theorem G_:aD Tryz.prog 12 (xu):=by
 intro args objs K h
 unfold xu at h
 split at h
 · rename_i a0
   obtain ⟨t,rfl,h1,hk⟩:=h
   exact ⟨_,_,_,.pure _ rfl (J8 t.length t (Nat.le_refl _) h1),hk⟩
 · exact h.elim
end Lp
set_option maxRecDepth 100000
namespace Lp
open Go Go.Proofs
open List (length_cons length_drop length_nil nil_append tail_drop)
open Nat (reduceAdd reduceLeDiff reduceMul reduceSub)
set_option maxHeartbeats 4000000
theorem Mw (v:bq) (i c:Nat) (hv:v.length≤4611686018427387904) (h:Y.skip (v.drop i) 1=some c):ah Tryz.prog 82 [aH v,.int .i64 i] [] (.int .i64 (i+c:Nat)) []:=by
 refine O6.pure (T:=aO Tryz.prog []) 0 hD (aj ai) aT (by decide) ?_
 (conv=>arg 4;cbv);simp only [↓Ae,EL,↓Cu,↓yC,↓Cv,yD,↓mR,mh,iT,eO,Ec,reduceAdd,reduceSub,qN,bS,Ho,Hq,yE]
 refine aF (fun m S=>∃ (j k c':Nat),m=c'∧Y.skip (v.drop j) k=some c'∧j+c'=i+c∧S=⟨mkT 19 [(0,aH v),(1,.int .i64 j),(5,.int .i64 k)],[]⟩) c ⟨i,1,c,rfl,h,rfl,?_⟩ ?_
 · simp only [Te,aH,qN];rfl
 rintro m S ⟨j,k,c',rfl,hs,hj,rfl⟩
 simp only [↓Ae,EL,↓Cu,↓yC,↓Cv,yD,↓mR,mh,iT,eO,Ec,reduceAdd,reduceSub,qN,Te,bS,aH,bB,Ho,Hq,yE,a_,eU,aL,dW,↓xX,↓KL,Ic,sW,EM,Hr,Bool.not_false,Bool.and_self,reduceLeDiff,forall_const,ne_eq,reduceCtorEq,not_false_eq_true,true_and,PV.bool.injEq,Int.toNat_natCast,Nat.zero_add,decide_eq_true_eq,length_cons,length_nil]
 refine ⟨fun hk=>?_,fun hk=>?_⟩
 · obtain ⟨k,rfl⟩:∃ k',k=k'+1:=⟨k-1,by omega⟩
   have hjl:j<v.length:=by
    rcases Nat.lt_or_ge j v.length with h' | h'
    · exact h'
    · rw [List.drop_eq_nil_of_le h'] at hs;simp [Y.skip] at hs
   rw [List.drop_eq_getElem_cons hjl] at hs
   obtain ⟨hm,c'',rfl,hs'⟩:=Y.cu hs
   have hle:=Y.dG _ _ _ hs'
   simp only [length_drop] at hle
   have hk2:((k+1:Nat):Int)+(v[j].many-1)=((k+v[j].many.toNat:Nat):Int):=by omega
   exact ⟨by omega,v[j],List.getElem?_eq_getElem hjl,by omega,by omega,by omega,c'',by omega,j+1,k+v[j].many.toNat,c'',rfl,hs',by omega,by rw [hk2];rfl⟩
 · rw [if_pos trivial]
   have hk0:k=0:=by have:=of_decide_eq_false hk;omega
   subst hk0
   have:m=0:=by cases hd:v.drop j <;> rw [hd] at hs <;> simp [Y.skip] at hs <;> exact hs.symm
   subst this
   congr 1;omega
def Ey (v:bq):Obj:=⟨44,11,v.map bB,true,0⟩
theorem wo (v:bq):eP [Ey v]:=by
 intro o ho x hx p hp
 simp only [List.mem_singleton] at ho
 subst ho
 simp only [Ey,List.mem_map] at hx
 obtain ⟨n,_,rfl⟩:=hx
 simp only [bB,PV.cells,List.mem_cons,List.not_mem_nil,or_false] at hp
 rcases hp with rfl | rfl | rfl | rfl | rfl | rfl | rfl | rfl | rfl | rfl | rfl <;> rfl
theorem Sn (n:fK):(bB n).cells.length=11∧(bB n).cells.all PV.storable=true:=⟨rfl,rfl⟩
theorem X8 (d n:Nat) (objs:List Obj) (v:bq):(v.map bB).map (PV.bF (eY d n objs))=v.map bB:=by
 rw [List.map_map]
 exact List.map_congr_left fun x _=>rfl
theorem Sq:ah Tryz.prog 55 [.sl 11 [] (some true)] [] (.aX 0 0) [Ey []]:=by
 refine iF.made (T:=aO Tryz.prog []) 0 hD (aj ai) aT ?_
 (conv=>arg 4;cbv);simp only [↓Ae,EL,↓Cu,↓yC,↓Cv,yD,↓mR,JH,Ec,reduceAdd,reduceSub,qN,Te,bS,Ho,Hq,yE,eG,forall_const,reduceCtorEq,false_imp_iff,and_true,TK.slice.injEq,exists_eq',true_and]
 exact ⟨_,0,0,_,Weak.vg 2 44 11 rfl,rfl,rfl,rfl,rfl,rfl,wo []⟩
theorem PI (v:bq) (hv:v.length≤1099511627776):ah Tryz.prog 55 [.sl 11 (v.map bB) (some false)] [] (.aX 0 0) [Ey v]:=by
 refine iF.made (T:=aO Tryz.prog []) 0 hD (aj ai) aT ?_
 (conv=>arg 4;cbv);simp only [↓Ae,EL,↓Cu,↓yC,↓Cv,yD,↓mR,JH,Ec,reduceAdd,reduceSub,qN,Te,bS,Ho,Hq,yE,eG,forall_const,reduceCtorEq,false_imp_iff,and_true,TK.slice.injEq,exists_eq',true_and]
 simp only [bJ,dX,mg,newObj,iR,bS,ne_eq,reduceCtorEq,not_false_eq_true,true_and,if_true,List.all_nil,Nat.zero_mul,Nat.zero_le,nil_append,length_nil,List.getElem?_cons_zero,Option.some.injEq]
 refine ⟨rfl,rfl,rfl,rfl,?_,_,rfl,rfl,rfl,rfl,rfl,?_,?_,fun _ _ h=>h.elim,_,0,2,_,Weak.refl _ _,rfl,rfl,rfl,rfl,?_,wo v⟩
 · intro y hy
   obtain ⟨n,_,rfl⟩:=List.mem_map.1 hy
   exact Sn n
 · simp;omega
 · simp;omega
 · simp only [fO,Ey,List.replicate_zero,nil_append,X8]
theorem PK (v:bq) (hv:v.length≤1099511627776):ah Tryz.prog 55 [aH v] [] (.aX 0 0) [Ey v]:=
 ah.split (pre:=[]) (post:=[]) (fun h=>by
  have:v=[]:=by simpa using h
  subst this
  exact Sq) (PI v hv)
theorem Sr (t:bq) (i:Int) (h0:0≤i) (hi:i.toNat<t.length) (hl:t.length≤1000000) (ho:Y.One t):ah Tryz.prog 82 [aH t,.int .i64 i] [] (.int .i64 (i.toNat+(Y.pU t i.toNat).length:Nat)) []:=by
 obtain ⟨c,hc⟩:=ho.at hi
 have hle:=Y.dG _ _ _ hc
 rw [length_drop] at hle
 have hs:(Y.pU t i.toNat).length=c:=by unfold Y.pU;rw [hc];simp only [List.length_take,length_drop];omega
 have:=Mw t i.toNat c (by omega) hc
 rw [Int.toNat_of_nonneg h0] at this
 rw [hs]
 exact this
def p8:dF:=fun args objs K=>match args with
 | [a0,.int .i64 i]=>f_ aH a0 (HK.mk:HK fun t=>(0≤i)∧(i.toNat<t.length)∧(t.length≤1000000)∧(Y.One t)∧K (.int .i64 (i.toNat+(Y.pU t i.toNat).length:Nat)) objs 0)
 | _=>False
theorem I_:aD Tryz.prog 82 (p8):=by
 intro args objs K h
 unfold p8 at h
 split at h
 · rename_i a0 i
   obtain ⟨t,rfl,h1,h2,h3,h4,hk⟩:=h
   exact ⟨_,_,_,.pure _ rfl ((Sr t i h1 h2 h3 h4)),hk⟩
 · exact h.elim
def jZ:Nat→List bq→List (List PV)
 | _,[]=>[]
 | i,p::ps=>[.int .i64 i,.int .i64 (i+p.length:Nat)]::jZ (i+p.length) ps
theorem xw:∀ (ps:List bq) (i:Nat),(jZ i ps).length=ps.length
 | [],_=>rfl
 | p::ps,i=>by simp only [jZ,length_cons,xw ps]
theorem J9:∀ (ps:List bq) (i:Nat),∀ y ∈ jZ i ps,y.length=2
 | [],_,y,h=>by cases h
 | p::ps,i,y,h=>by
  rcases List.mem_cons.1 h with rfl | h
  · rfl
  · exact J9 ps _ y h
theorem Sv (t:bq):ah Tryz.prog 54 [aH t] [] (.fn 81 [] [.addr (aH t)]) []:=by
 refine Vr.pure (T:=aO Tryz.prog []) 1 hD (aj ai) aT (by decide) ?_
 (conv=>arg 4;cbv);simp only [↓Ae,EL,↓Cu,↓yC,↓Cv,yD,↓mR,mh,iT,eO,reduceAdd,reduceSub,qN,bS,Hz,jm,newObj,aH,EM,Hr,ne_eq,reduceCtorEq,not_false_eq_true,true_and,length_cons,length_nil,nil_append]
 exact ⟨rfl,rfl,rfl⟩
def BK:dF:=fun args objs K=>match args with
 | [a0]=>f_ aH a0 (HK.mk:HK fun t=>K (.fn 81 [] [.addr (aH t)]) objs 0)
 | _=>False
theorem PL:aD Tryz.prog 54 (BK):=by
 intro args objs K h
 unfold BK at h
 split at h
 · rename_i a0
   obtain ⟨t,rfl,hk⟩:=h
   exact ⟨_,_,_,.pure _ rfl (Sv t),hk⟩
 · exact h.elim
theorem PN (t:bq) (n:fK) (ps:List bq) (ho:Y.One t) (hl:t.length≤1000000) (hg0:t[0]?=some n) (hp:Y.parts n.many.toNat (t.drop 1)=some ps) (hm:0≤n.many) :
  Gives Tryz.prog 81 [.addr (aH t)] (if n.kind=1 then [] else jZ 1 ps):=by
 refine O7.gives (fnT:=sV [(82,p8)]) hD (af I_ ai) aT ?_
 intro I J objs y hI Hl VQ
 have hpl:=Y.bQ _ _ _ hp
 have Ik:=Y.gm _ _ _ hp
 rw [length_drop] at Ik
 have hmn:n.many=(ps.length:Int):=by omega
 (conv=>arg 4;cbv);simp(maxSteps:=400000)only[↓ax,ay,BEq.rfl,reduceIte,reduceCtorEq,Nat.reduceLT,reduceAdd,reduceSub,reduceMul,Nat.reduceBEq,reduceLeDiff,Int.reduceToNat,Int.reduceLE,hg0]
 refine aF (fun m S=>∃ (k i:Nat) (O:List Obj) (rest:List bq),k+rest.length=ps.length∧m=rest.length∧Y.parts rest.length (t.drop i)=some rest∧ps.drop k=rest∧(jZ 1 ps).drop k=jZ i rest∧(if n.kind=1 then O=objs else I k O)∧
  S=⟨cO 28 [(0,.D8 y),(1,.addr (aH t)),(3,.int .i64 i),(8,.int .i64 n.many),(9,.int .i64 k)],O⟩) ps.length ⟨0,1,objs,ps,by omega,rfl,by rw [hpl];exact hp,rfl,rfl,by split;rfl;exact hI,?_⟩ ?_
 · simp only [bI,keepR,reduceAdd,kT,Nat.reduceBEq,List.map_nil]
   rfl
 rintro m S ⟨k,i,O,rest,hk,rfl,hps,hd,hrw,UO,rfl⟩
 cases rest with
 | nil=>
  simp only [length_nil,Nat.add_zero] at hk
  have hlt:((k:Int)<(ps.length:Int))=False:=eq_false (by omega)
  simp(maxSteps:=400000)only[↓ax,ay,BEq.rfl,reduceIte,reduceCtorEq,Nat.reduceLT,reduceAdd,reduceSub,reduceMul,Nat.reduceBEq,reduceLeDiff,Int.reduceToNat,Int.reduceLE,hmn,hlt]
  refine ⟨.inl rfl,.inl ?_⟩
  by_cases h1:n.kind=1
  · rw [if_pos h1] at UO ⊢;rw [UO];exact hI
  · rw [if_neg h1] at UO ⊢;rw [xw,← hk];exact UO
 | cons p qs=>
  simp only [length_cons] at hk
  obtain ⟨c,Zu,h1,h2,h3⟩:=Y.dN (k:=qs.length) hps
  simp only [List.cons.injEq] at h2
  obtain ⟨hp1,rfl⟩:=h2
  have hc:=Y.dG _ _ _ h1
  simp only [length_drop] at hc
  have hlt:((k:Int)<(ps.length:Int))=True:=eq_true (by omega)
  have hpc:p.length=c:=by rw [hp1,List.length_take,length_drop];omega
  have hsub:(Y.pU t i).length=c:=by
   have e:Y.pU t i=p:=by unfold Y.pU;rw [h1];exact hp1.symm
   rw [e,hpc]
  have zi:(0≤(i:Int))=True:=eq_true (by omega)
  by_cases hk1:n.kind=1
  · have RL:=eq_true hk1
    simp(maxSteps:=400000)only[↓ax,ay,BEq.rfl,reduceIte,reduceCtorEq,Nat.reduceLT,reduceAdd,reduceSub,reduceMul,Nat.reduceBEq,reduceLeDiff,Int.reduceToNat,Int.reduceLE,hmn,hlt,↓p8,Int.toNat_natCast,hsub,hg0,RL]
    rw [if_pos hk1] at UO
    have e1:(jZ 1 ps).drop (k+1)=jZ (i+c) qs:=by
     have:=congrArg List.tail hrw
     simpa [jZ,tail_drop,hpc] using this
    have e2:ps.drop (k+1)=qs:=by
     have:=congrArg List.tail hd
     simpa [tail_drop] using this
    exact ⟨by omega,by omega,hl,ho,⟨by omega,by omega⟩,qs.length,by omega,k+1,i+c,O,qs,by omega,rfl,by rw [← List.drop_drop];exact h3,e2,e1,UO,by rw [Int.natCast_add k 1];rfl⟩
  · have RL:=eq_false hk1
    simp(maxSteps:=400000)only[↓ax,ay,BEq.rfl,reduceIte,reduceCtorEq,Nat.reduceLT,reduceAdd,reduceSub,reduceMul,Nat.reduceBEq,reduceLeDiff,Int.reduceToNat,Int.reduceLE,hmn,hlt,↓p8,Int.toNat_natCast,hsub,hg0,RL,VP]
    have e1:(jZ 1 ps).drop (k+1)=jZ (i+c) qs:=by
     have:=congrArg List.tail hrw
     simpa [jZ,tail_drop,hpc] using this
    have e2:ps.drop (k+1)=qs:=by
     have:=congrArg List.tail hd
     simpa [tail_drop] using this
    have e3:(jZ 1 ps)[k]?=some [.int .i64 (i:Int),.int .i64 (i+c:Nat)]:=by
     have:=congrArg (fun l=>l[0]?) hrw
     simpa [jZ,hpc] using this
    rw [if_neg hk1] at UO
    exact ⟨by omega,by omega,hl,ho,rfl,k,UO,e3,fun O' hI'=>⟨⟨by omega,by omega⟩,qs.length,by omega,k+1,i+c,O',qs,by omega,rfl,by rw [← List.drop_drop];exact h3,e2,e1,hI',by rw [Int.natCast_add k 1];rfl⟩,
     fun O' hJ'=>⟨.inr rfl,.inr ⟨k,by rw [xw];omega,hJ'⟩⟩⟩
end Lp
set_option maxRecDepth 100000
namespace Lp
open Go Go.Proofs
open List (mem_singleton)
open Nat (reduceAdd reduceLeDiff reduceMul reduceSub)
open Int (reduceLE reduceToNat)
set_option maxHeartbeats 4000000
def si:dF:=fun args objs K=>match args with
 | [a]=>f_ aH a (HK.mk:HK fun t=>t.length≤1000000∧K (.aX objs.length 0) (objs++[Ey t]) 2)
 | _=>False
theorem Mx:aD Tryz.prog 55 si:=by
 intro args objs K h
 unfold si at h
 split at h
 · rename_i a
   obtain ⟨t,rfl,hv,hk⟩:=h
   have h:=lM.made (P:=Tryz.prog) (objs:=objs) _ _ rfl (wo t) (PK t (by omega))
   exact ⟨_,_,_,h,by simpa [PV.shift,PV.pz] using hk⟩
 · exact h.elim
theorem J_ (t:bq):∀ (ps:List bq) (i0 k:Nat) (args:List PV),ps.flatten=(t.drop i0).take ps.flatten.length→(jZ i0 ps)[k]?=some args→
  ∃ p o,ps[k]?=some p∧args=[.int .i64 (o:Nat),.int .i64 (o+p.length:Nat)]∧(t.drop o).take p.length=p
 | [],i0,k,args,_,h=>by simp [jZ] at h
 | p::ps,i0,0,args,hf,h=>by
  simp only [jZ,List.getElem?_cons_zero,Option.some.injEq] at h
  refine ⟨p,i0,rfl,h.symm,?_⟩
  have:=congrArg (List.take p.length) hf
  simp only [List.flatten_cons,List.take_left,List.length_append] at this
  rw [List.take_take,Nat.min_eq_left (by omega)] at this
  exact this.symm
 | p::ps,i0,k+1,args,hf,h=>by
  simp only [jZ,List.getElem?_cons_succ] at h
  have:=congrArg (List.drop p.length) hf
  simp only [List.flatten_cons,List.drop_left,List.length_append] at this
  rw [List.drop_take,List.drop_drop,Nat.add_sub_cancel_left] at this
  obtain ⟨q,o,h1,h2,h3⟩:=J_ t ps (i0+p.length) k args this h
  exact ⟨q,o,by simpa using h1,h2,h3⟩
def PO (t:bq):Obj:=⟨23,1,[aH t],true,1⟩
def Ez (t:bq):List bq→Nat→List Obj
 | [],_=>[PO t,⟨38,1,[.sl 0 [] (some true)],true,1⟩]
 | p::ps,v=>[PO t,⟨38,1,[.aX 2 v],true,1⟩,Ew (p::ps) v]
theorem Zl (t:bq) (l:List bq) (v:Nat):2≤(Ez t l v).length∧jq (Ez t l v):=by
 cases l with
 | nil=>
  refine ⟨by simp [Ez],?_⟩
  intro o ho x hx c hc
  simp only [Ez,PO,List.mem_cons,List.not_mem_nil,or_false] at ho
  rcases ho with rfl | rfl
  · simp only [mem_singleton] at hx;subst hx
    simp only [aH,PV.cells,mem_singleton] at hc;subst hc;rfl
  · simp only [mem_singleton] at hx;subst hx
    simp only [PV.cells,mem_singleton] at hc;subst hc;rfl
 | cons p ps=>
  refine ⟨by simp [Ez],?_⟩
  intro o ho x hx c hc
  simp only [Ez,PO,Ew,List.mem_cons,List.not_mem_nil,or_false] at ho
  rcases ho with rfl | rfl | rfl
  · simp only [mem_singleton] at hx;subst hx
    simp only [aH,PV.cells,mem_singleton] at hc;subst hc;rfl
  · simp only [mem_singleton] at hx;subst hx
    simp only [PV.cells,mem_singleton] at hc;subst hc;simp [Ez,PV.uS]
  · simp only [List.mem_map] at hx
    obtain ⟨y,_,rfl⟩:=hx
    simp only [aH,PV.cells,mem_singleton] at hc;subst hc;rfl
theorem aau (x:fK) (q:bq):(Ey (x::q)).live=true∧(Ey (x::q)).ver=0∧(Ey (x::q)).sz=11∧(Ey (x::q)).ty=44∧(Ey (x::q)).xs=bB x::q.map bB:=⟨rfl,rfl,rfl,rfl,rfl⟩
theorem adb (l:List bq) (v:Nat):(Ew l v).live=true∧(Ew l v).ver=v∧(Ew l v).sz=1∧(Ew l v).ty=23∧(Ew l v).xs=l.map aH:=⟨rfl,rfl,rfl,rfl,rfl⟩
theorem TJ (k:Nat) (X:List Obj) (x:fK) (q:bq) (ver:Nat) (t:TypeId) (h:X[k]?=some ⟨t,11,bB x::q.map bB,true,ver⟩):eY 1 k X (.aX k ver)=aH (x::q):=by
 have e:(bB x::q.map bB).map (PV.bF (fM 0 k X))=bB x::q.map bB:=Pz (fM 0 k X) (fun _=>rfl) (x::q)
 simp only [eY,Nat.lt_irrefl,if_false,fM,h,Nat.le_refl,decide_true,Bool.true_and,beq_self_eq_true,if_true,e]
 rfl
theorem X9 (a b:Obj) (D:List bq) (ver:Nat):eY 2 0 [a,b,Ew D ver] (.aX 2 ver)=kJ D:=by
 simp only [Ew,eY,Nat.not_lt_zero,if_false,fM,List.getElem?_cons_succ,List.getElem?_cons_zero,Nat.zero_le,decide_true,Bool.true_and,beq_self_eq_true,if_true,C9 (fM 1 0 _) (fun _=>rfl)]
 rfl
theorem X_ :
  (∀ d X v i f,eY d 2 X (.bL 1 v i f)=.bL 1 v i f)∧(∀ d X v i f,eY d 3 X (.bL 1 v i f)=.bL 1 v i f)∧
  (∀ d n X T t u,fO d n X ⟨T,1,[aH t],true,u⟩=⟨T,1,[aH t],true,u⟩)∧
  (∀ d n X T u,fO d n X ⟨T,1,[.sl 0 [] (some true)],true,u⟩=⟨T,1,[.sl 0 [] (some true)],true,u⟩)∧
  (∀ d X T v u,fO d 3 X ⟨T,1,[.aX 2 v],true,u⟩=⟨T,1,[.aX 2 v],true,u⟩)∧
  (∀ d n X l v,fO d n X (Ew l v)=Ew l v):=
 ⟨fun _ _ _ _ _=>rfl,fun _ _ _ _ _=>rfl,fun _ _ _ _ _ _=>rfl,fun _ _ _ _ _=>rfl,fun _ _ _ _ _=>rfl,fun d n X l v=>PD d n X 23 l v⟩
def aav (l:List bq):PV:=if l=[] then .sl 0 [] (some true) else kJ l
theorem Ja (t:bq) (ho:Y.One t) (hl:t.length≤1000000):ah Tryz.prog 30 [aH t] [] (aav (bM t)) []:=by
 obtain ⟨n,r,ps,hv,hm,hp,hfl,hps,hpo,hmn,Ik⟩:=uq t ho
 have hg0:t[0]?=some n:=by rw [hv];rfl
 have hd1:t.drop 1=r:=by rw [hv];rfl
 have hrl:r.length+1=t.length:=by rw [hv];rfl
 have hr:bM t=if n.kind=1 then [] else ps.map Y.jf:=by rw [hv,bM,hpo]
 have hgv:=PN t n ps ho hl hg0 (by rw [hd1];exact hp) hm
 refine Rx.aZ (T:=aO Tryz.prog [(54,BK),(55,si)]) 2 hD (aj (af PL (af Mx ai))) aT (by decide) fun Q hQ=>?_
 (conv=>arg 4;cbv);simp(maxSteps:=400000)only[↓ax,ay,BEq.rfl,reduceIte,reduceCtorEq,Nat.reduceLT,reduceAdd,reduceSub,reduceMul,Nat.reduceBEq,reduceLeDiff,reduceToNat,reduceLE,hQ,↓BK]
 obtain ⟨qs,hqs,hrows⟩:∃ qs:List bq,qs=(if n.kind=1 then [] else ps)∧(if n.kind=1 then [] else jZ 1 ps)=jZ 1 qs:=by
  by_cases h1:n.kind=1
  · exact ⟨[],by rw [if_pos h1],by rw [if_pos h1];rfl⟩
  · exact ⟨ps,by rw [if_neg h1],by rw [if_neg h1]⟩
 have hr':bM t=qs.map Y.jf:=by
  rw [hr,hqs];split <;> rfl
 have hqf:qs.flatten=(t.drop 1).take qs.flatten.length:=by
  rw [hqs];split
  · rfl
  · rw [hd1,hfl];simp
 have VW:qs.length≤t.length:=by
  rw [hqs];split
  · simp
  · omega
 have acv:∀ p ∈ qs,Y.One p:=by
  rw [hqs];split
  · intro p h;cases h
  · exact hps
 rw [hrows] at hgv
 clear hqs hrows hr
 refine FX 81 [.addr (aH t)] (jZ 1 qs) (fun i O=>∃ ver,i≤qs.length∧O=Ez t ((qs.take i).map Y.jf) ver) rfl rfl rfl trivial hgv (J9 qs 1) ⟨0,Nat.zero_le _,rfl⟩ ?_ ?_ ?_
 · rintro i O ⟨ver,_,rfl⟩
   exact Zl _ _ _
 · rintro i args O ⟨ver,hi,rfl⟩ ha
   obtain ⟨p,o,h1,rfl,h3⟩:=J_ t qs 1 i args hqf ha
   have hil:=(List.getElem?_eq_some_iff.1 h1).1
   have htk:(qs.take (i+1)).map Y.jf=(qs.take i).map Y.jf++[Y.jf p]:=by rw [List.take_add_one,h1];simp
   have ade:=(acv p (List.mem_of_getElem? h1)).ne
   obtain ⟨x,q,hpx⟩:∃ x q,p=x::q:=by
    cases p with
    | nil=>exact absurd rfl ade
    | cons x q=>exact ⟨x,q,rfl⟩
   have hxl:p.length=q.length+1:=by rw [hpx];rfl
   have hol:o+p.length≤t.length:=by
    have:=congrArg List.length h3
    rw [List.length_take,List.length_drop] at this
    omega
   have zo:(0≤(o:Int))=True:=eq_true (by omega)
   have c1:((o:Int)≤((o+p.length:Nat):Int))=True:=eq_true (by omega)
   have c2:(((o+p.length:Nat):Int)≤(t.length:Int))=True:=eq_true (by omega)
   have hsl:List.drop o (List.take (o+p.length) t)=p:=by rw [List.drop_take,show o+p.length-o=p.length by omega,h3]
   subst hpx
   simp only [List.length_cons] at c1 c2 hsl hol
   clear hxl
   cases hD:(qs.take i).map Y.jf with
   | nil=>
    unfold Ez PO
    simp(maxSteps:=400000)only[↓ax,ay,BEq.rfl,reduceIte,reduceCtorEq,Nat.reduceLT,reduceAdd,reduceSub,reduceMul,Nat.reduceBEq,reduceLeDiff,reduceToNat,reduceLE,hQ,qf,knI,↓si,zo,c1,c2,hsl,aau,List.set_cons_zero]
    refine ⟨by omega,by omega,?_⟩
    refine aQ _ (Weak.freeze 1 2 ?_ _) ?_
    · exact Nat.le_refl _
    have hz:∀ a b:Obj,eY 1 2 [a,b,⟨44,11,bB { x with name:=[] }::q.map bB,true,0⟩] (.aX 2 0)=aH ({ x with name:=[] }::q):=fun a b=>TJ 2 _ _ q 0 _ rfl
    simp(maxSteps:=400000)only[↓ax,ay,BEq.rfl,reduceIte,reduceCtorEq,Nat.reduceLT,reduceAdd,reduceSub,reduceMul,Nat.reduceBEq,reduceLeDiff,reduceToNat,reduceLE,hQ,hz,X_,List.take_succ_cons,List.take_zero]
    refine ⟨1,by omega,?_⟩
    rw [htk,hD];rfl
   | cons d ds=>
    unfold Ez PO
    simp(maxSteps:=400000)only[↓ax,ay,BEq.rfl,reduceIte,reduceCtorEq,Nat.reduceLT,reduceAdd,reduceSub,reduceMul,Nat.reduceBEq,reduceLeDiff,reduceToNat,reduceLE,hQ,qf,knI,↓si,zo,c1,c2,hsl,aau,List.set_cons_zero]
    refine ⟨by omega,by omega,?_⟩
    refine aQ _ (Weak.freeze 1 3 ?_ _) ?_
    · exact (by decide:2≤3)
    have hz:∀ a b c:Obj,eY 1 3 [a,b,c,⟨44,11,bB { x with name:=[] }::q.map bB,true,0⟩] (.aX 3 0)=aH ({ x with name:=[] }::q):=fun a b c=>TJ 3 _ _ q 0 _ rfl
    have hdl:ds.length≤t.length:=by
     have:=congrArg List.length hD
     simp only [List.length_map,List.length_take,List.length_cons] at this
     omega
    simp(maxSteps:=400000)only[↓ax,ay,BEq.rfl,reduceIte,reduceCtorEq,Nat.reduceLT,reduceAdd,reduceSub,reduceMul,Nat.reduceBEq,reduceLeDiff,reduceToNat,reduceLE,hQ,hz,X_,adb,List.take_succ_cons,List.take_zero]
    refine ⟨by omega,by omega,ver+1,by omega,?_⟩
    rw [htk,hD]
    simp only [List.cons_append,Ew,List.map_cons,List.map_append,List.map_nil]
    rfl
 · rintro O ⟨ver,_,rfl⟩
   rw [xw,List.take_length,← hr']
   cases hD:bM t with
   | nil=>
    unfold Ez PO
    simp(maxSteps:=400000)only[↓ax,ay,BEq.rfl,reduceIte,reduceCtorEq,Nat.reduceLT,reduceAdd,reduceSub,reduceMul,Nat.reduceBEq,reduceLeDiff,reduceToNat,reduceLE,hQ]
    rw [hD];rfl
   | cons d ds=>
    unfold Ez PO
    simp(maxSteps:=400000)only[↓ax,ay,BEq.rfl,reduceIte,reduceCtorEq,Nat.reduceLT,reduceAdd,reduceSub,reduceMul,Nat.reduceBEq,reduceLeDiff,reduceToNat,reduceLE,hQ]
    rw [hD]
    exact (X9 _ _ _ _).symm
theorem MB (t:bq) (ho:Y.One t) (hl:t.length≤1000000):ah Tryz.prog 30 [aH t] [] (kJ (bM t)) []:=by
 refine (Ja t ho hl).res ?_
 unfold aav
 split
 · rename_i h;rw [h];exact mW 0 1
 · exact .refl _
def p9:dF:=fun args objs K=>match args with
 | [a0]=>f_ aH a0 (HK.mk:HK fun t=>(Y.One t)∧(t.length≤1000000)∧K (kJ (bM t)) objs 0)
 | _=>False
theorem Jb:aD Tryz.prog 30 (p9):=by
 intro args objs K h
 unfold p9 at h
 split at h
 · rename_i a0
   obtain ⟨t,rfl,h1,h2,hk⟩:=h
   exact ⟨_,_,_,.pure _ rfl (MB t h1 h2),hk⟩
 · exact h.elim
end Lp
set_option maxRecDepth 100000
namespace Lp
open Go Go.Proofs
open Nat (reduceAdd reduceLeDiff reduceMul reduceSub)
open Int (reduceLE reduceToNat)
set_option maxHeartbeats 4000000
theorem EY {n:Nat}{l m:List (Nat×PV)}(h:∀ i,jX l i=jX m i):cO n l=cO n m:=
 wK (by simp [mU]) fun i hi=>by rw [tq,if_pos hi,h]
theorem PS (t:bq) (n:fK) (hl:t.length≤1000000) (hg0:t[0]?=some n) (hm:0≤n.many) (hml:1+n.many.toNat≤t.length):ah Tryz.prog 52 [aH t,.int .i64 0] [] (bP (((t.drop 1).take n.many.toNat).map jy)) []:=by
 refine LW.aZ (T:=aO Tryz.prog []) 1 hD (aj ai) aT (by decide) fun Q hQ=>?_
 have e1:(0:Int)+1=1:=rfl
 have e2:Int.toNat 1=1:=rfl
 have t1:(1+n.many).toNat=1+n.many.toNat:=by omega
 have c1:((1:Int)≤1+n.many)=True:=eq_true (by omega)
 have c2:(1+n.many≤(t.length:Int))=True:=eq_true (by omega)
 have hR:List.drop 1 (List.take (1+n.many.toNat) t)=(t.drop 1).take n.many.toNat:=by rw [List.drop_take];congr 1;omega
 have hRl:((t.drop 1).take n.many.toNat).length=n.many.toNat:=by rw [List.length_take,List.length_drop];omega
 (conv=>arg 4;cbv);simp(maxSteps:=400000)only[↓ax,ay,BEq.rfl,reduceIte,reduceCtorEq,Nat.reduceLT,reduceAdd,reduceSub,reduceMul,Nat.reduceBEq,reduceLeDiff,reduceToNat,reduceLE,hQ,hg0,e1,e2,t1,c1,c2,hR]
 generalize (t.drop 1).take n.many.toNat=R at *
 refine ⟨⟨by omega,by omega⟩,?_⟩
 refine wJ (hz:=Nat.zero_le _) ⟨cO 35 [(5,.aX 0 0),(19,aH R),(20,.int .i64 R.length),(21,.int .i64 0)],[⟨87,7,[],true,0⟩]⟩ R.length ?_ ?_ ?_
  (I:=fun m S=>∃ i ver:Nat,i+m=R.length∧S=⟨cO 35 [(5,.aX 0 ver),(19,aH R),(20,.int .i64 R.length),(21,.int .i64 i)],[⟨87,7,((R.take i).map jy).map dK,true,ver⟩]⟩)
 · simp(maxSteps:=400000)only[↓ax,ay,BEq.rfl,reduceIte,reduceCtorEq,Nat.reduceLT,reduceAdd,reduceSub,reduceMul,Nat.reduceBEq,reduceLeDiff,reduceToNat,reduceLE,List.take_nil]
   refine (Weak.vg 5 87 7 (by rfl)).trans ?_
   rw [mV.1,EY (m:=[(5,.aX 0 0),(19,aH R),(20,.int .i64 R.length),(21,.int .i64 0)])]
   · exact Weak.refl _ _
   · intro i
     simp only [jX]
     by_cases h3:i=5
     · subst h3;rfl
     · simp only [h3,if_false]
 · exact ⟨0,0,by omega,rfl⟩
 rintro m S ⟨i,ver,him,rfl⟩
 rcases Nat.lt_or_ge i R.length with h | h
 · have hlt:((i:Int)<(R.length:Int))=True:=eq_true (by omega)
   have hgi:=List.getElem?_eq_getElem h
   generalize R[i]=x at hgi
   have htk:(R.take (i+1)).map jy=(R.take i).map jy++[⟨x.n,x.c⟩]:=by rw [List.take_add_one,hgi];simp [jy]
   have hti:(R.take i).length=i:=by rw [List.length_take];omega
   simp(maxSteps:=400000)only[↓ax,ay,BEq.rfl,reduceIte,reduceCtorEq,Nat.reduceLT,reduceAdd,reduceSub,reduceMul,Nat.reduceBEq,reduceLeDiff,reduceToNat,reduceLE,hQ,hlt,hgi,iE,iI,Bv,bC,dY,atB,aa7,hti,RD,List.take_succ_cons,List.take_zero]
   refine ⟨by omega,by omega,by omega,⟨by omega,by omega⟩,m-1,by omega,i+1,ver+1,by omega,?_⟩
   have hk:∀ d m O (l:List lG) v,fO d m O ⟨87,7,l.map dK,true,v⟩=⟨87,7,l.map dK,true,v⟩:=fun d m O l v=>by
    have:(l.map dK).map (PV.bF (eY d m O))=l.map dK:=by rw [List.map_map];exact List.map_congr_left fun x _=>rfl
    simp only [fO,this]
   have e:List.map dK (List.map jy (List.take i R))++[dK ⟨x.n,x.c⟩]=(((R.take (i+1)).map jy).map dK):=by rw [htk];simp
   simp only [e,List.map_cons,List.map_nil,hk]
   rfl
 · have hlt:((i:Int)<(R.length:Int))=False:=eq_false (by omega)
   rw [List.take_of_length_le h]
   simp(maxSteps:=400000)only[↓ax,ay,BEq.rfl,reduceIte,reduceCtorEq,Nat.reduceLT,reduceAdd,reduceSub,reduceMul,Nat.reduceBEq,reduceLeDiff,reduceToNat,reduceLE,hQ,hlt,LX]
theorem MC (t:bq) (hl:t.length≤1000000) (ho:Y.One t):ah Tryz.prog 28 [aH t] [] (if Y.kindOf t=1 then bP (iA t) else .sl 0 [] (some true)) []:=by
 obtain ⟨n,r,ps,hv,hm,hp,hfl,hps,hpo,hmn,Ik⟩:=uq t ho
 have hg0:t[0]?=some n:=by rw [hv];rfl
 have hkd:Y.kindOf t=n.kind:=by rw [hv];rfl
 rw [hkd]
 by_cases hk:n.kind=1
 · rw [if_pos hk]
   have ha:iA t=((t.drop 1).take n.many.toNat).map jy:=by rw [hv];simp [iA,hk]
   have hml:1+n.many.toNat≤t.length:=by rw [hv,List.length_cons];omega
   rw [ha]
   have hsp:=PS t n hl hg0 hm hml
   generalize ((t.drop 1).take n.many.toNat).map jy=A at *
   have hok:aD Tryz.prog 52 (fun args objs K=>args=[aH t,.int .i64 0]∧K (bP A) objs 0):=by
    rintro args objs K ⟨rfl,hk⟩
    exact ⟨_,_,_,.pure _ rfl hsp,hk⟩
   refine GQ.aZ (T:=aO Tryz.prog [(52,_)]) 0 hD (aj (af hok ai)) aT (by decide) fun Q hQ=>?_
   (conv=>arg 4;cbv);simp(maxSteps:=400000)only[↓ax,ay,BEq.rfl,reduceIte,reduceCtorEq,Nat.reduceLT,reduceAdd,reduceSub,reduceMul,Nat.reduceBEq,reduceLeDiff,reduceToNat,reduceLE,hQ,hg0,hk]
 · rw [if_neg hk]
   have hk':=eq_false hk
   refine GQ.aZ (T:=aO Tryz.prog []) 0 hD (aj ai) aT (by decide) fun Q hQ=>?_
   (conv=>arg 4;cbv);simp(maxSteps:=400000)only[↓ax,ay,BEq.rfl,reduceIte,reduceCtorEq,Nat.reduceLT,reduceAdd,reduceSub,reduceMul,Nat.reduceBEq,reduceLeDiff,reduceToNat,reduceLE,hQ,hg0,hk']
theorem Jc (t:bq) (hl:t.length≤1000000) (ho:Y.One t):ah Tryz.prog 28 [aH t] [] (bP (iA t)) []:=by
 refine (MC t hl ho).res ?_
 split
 · exact .refl _
 · rename_i h
   have:iA t=[]:=by
    cases t with
    | nil=>rfl
    | cons n r=>have hk:¬ n.kind=1:=h;simp [iA,hk]
   rw [this]
   exact mW 0 7
def uD:dF:=fun args objs K=>match args with
 | [a0]=>f_ aH a0 (HK.mk:HK fun t=>(t.length≤1000000)∧(Y.One t)∧K (bP (iA t)) objs 0)
 | _=>False
theorem Jd:aD Tryz.prog 28 (uD):=by
 intro args objs K h
 unfold uD at h
 split at h
 · rename_i a0
   obtain ⟨t,rfl,h1,h2,hk⟩:=h
   exact ⟨_,_,_,.pure _ rfl (Jc t h1 h2),hk⟩
 · exact h.elim
end Lp
set_option maxRecDepth 100000
namespace Lp
open Go Go.Proofs
open List (length_take map_append map_map take_add_one take_length)
open Nat (reduceAdd reduceLeDiff reduceMul reduceSub zero_le)
open Int (reduceEq reduceLE reduceToNat)
set_option maxHeartbeats 4000000
theorem Ka (l:List (List UInt8)) (ver:Nat) (t:TypeId) (rest:List Obj):eY 1 0 (⟨t,1,l.map .str,true,ver⟩::rest) (.aX 0 ver)=cK l:=by
 have:(l.map PV.str).map (PV.bF (fM 0 0 (⟨t,1,l.map .str,true,ver⟩::rest)))=l.map .str:=by
  rw [map_map];exact List.map_congr_left fun x _=>rfl
 simp only [eY,Nat.not_lt_zero,if_false,fM,List.getElem?_cons_zero,Nat.le_refl,decide_true,Bool.true_and,beq_self_eq_true,if_true,this]
 rfl
theorem Kb (o:Obj) (l:List Vl) (ver:Nat) (t:TypeId) (rest:List Obj):eY 1 0 (o::⟨t,1,l.map aC,true,ver⟩::rest) (.aX 1 ver)=dh l:=by
 have:(l.map aC).map (PV.bF (fM 0 0 (o::⟨t,1,l.map aC,true,ver⟩::rest)))=l.map aC:=by
  rw [map_map];exact List.map_congr_left fun x _=>rfl
 simp only [eY,Nat.not_lt_zero,if_false,fM,List.getElem?_cons_succ,List.getElem?_cons_zero,zero_le,decide_true,Bool.true_and,beq_self_eq_true,if_true,this]
 rfl
theorem Zm {n:fK}{ps:List bq}{i:Nat}{p:bq}(hp:ps[i]?=some p) (hne:p≠[]):∃ y z,p=y::z∧(n::ps.flatten)[1+(ps.take i).flatten.length]?=some y:=by
 obtain ⟨y,z,rfl⟩:∃ y z,p=y::z:=by
  cases p with
  | nil=>exact absurd rfl hne
  | cons y z=>exact ⟨y,z,rfl⟩
 refine ⟨y,z,rfl,?_⟩
 have hi:=(List.getElem?_eq_some_iff.1 hp).1
 have h2:ps.flatten=(ps.take i).flatten++(ps.drop i).flatten:=by rw [← List.flatten_append,List.take_append_drop]
 have h3:ps.drop i=(y::z)::ps.drop (i+1):=by
  rw [List.drop_eq_getElem_cons hi];rw [List.getElem?_eq_getElem hi] at hp;rw [Option.some.inj hp]
 rw [Nat.add_comm,List.getElem?_cons_succ,h2,List.getElem?_append_right (Nat.le_refl _),Nat.sub_self,h3]
 rfl
theorem TL:∀ (f:Nat) (t:bq),t.length≤f→jl t→ah Tryz.prog 11 [aH t] [] (aC (dB t)) []
 | 0,t,h,hw=>absurd (List.length_eq_zero_iff.1 (by omega)) hw.rt.one.ne
 | f+1,[],_,hw=>absurd rfl hw.rt.one.ne
 | f+1,n::r,h,hw=>by
  have hok:aD Tryz.prog 11 (fun args objs K=>match args with | [a]=>f_ aH a (HK.mk:HK fun p=>p.length≤f∧jl p∧K (aC (dB p)) objs 0) | _=>False):=by
   intro args objs K h
   split at h
   · obtain ⟨p,rfl,h1,h2,hk⟩:=h
     exact ⟨_,_,_,.pure _ rfl (TL f p h1 h2),hk⟩
   · exact h.elim
  refine XU.aZ (T:=aO Tryz.prog [(30,p9),(28,uD),(27,BH),(31,oJ),(29,nS),(11,_)]) 0 hD (aj (af Jb (af Jd (af Pt (af Eo (af G9 (af hok ai))))))) aT (by decide) fun Q hQ=>?_
  simp only [List.length_cons] at h
  have hl:=hw.len
  have ho:=hw.rt.one
  have hwp:=hw.part
  have hwl:=PG hw
  have hE:=Kg hw.rt
  have hg0:(n::r)[0]?=some n:=rfl
  have hA:=hw.atoms
  have hN:=hw.names
  have hNo:=hw.rt.names
  obtain ⟨_,_,raw,h3,h4,_⟩:=hw.rt.parts
  have hP:n.kind≠1→bM (n::r)=raw.map Y.jf:=fun hk=>by simp only [bM,hk,if_false,jR h3]
  have hNm:n.kind=2→gU (n::r)=raw.map Y.nameOf:=fun hk=>by simp only [gU,hk,if_true,jR h3]
  have hrow:=fun {i:Nat}{p:bq}=>Zm (n:=n) (ps:=raw) (i:=i) (p:=p)
  rw [h4] at hrow
  have hrl:raw.flatten.length=r.length:=by rw [h4]
  generalize hT:n::r=T at *
  have hTl:T.length=r.length+1:=by rw [← hT];rfl
  by_cases k0:n.kind=0
  · have hr:dB T=[aW]:=by rw [hE];simp [k0]
    (conv=>arg 4;cbv);simp(maxSteps:=400000)only[↓ax,ay,BEq.rfl,reduceIte,reduceCtorEq,Nat.reduceLT,reduceAdd,reduceSub,reduceMul,Nat.reduceBEq,reduceLeDiff,reduceToNat,reduceLE,hQ,hg0,bf,bg,rP,rQ,bC,reduceEq,k0,hr]
    rfl
  have n0:=eq_false k0
  by_cases k1:n.kind=1
  · have hr:dB T=[(mF n.n (iA T)).1]:=by rw [hE];simp [k1]
    (conv=>arg 4;cbv);simp(maxSteps:=400000)only[↓ax,ay,BEq.rfl,reduceIte,reduceCtorEq,Nat.reduceLT,reduceAdd,reduceSub,reduceMul,Nat.reduceBEq,reduceLeDiff,reduceToNat,reduceLE,hQ,hg0,bf,bg,rP,rQ,bC,reduceEq,n0,k1,↓uD,↓BH,ko,fQ,hr]
    obtain ⟨a1,a2,a3,a4⟩:=hA k1
    exact ⟨by omega,ho,a1,by omega,a3,a4,rfl⟩
  have n1:=eq_false k1
  by_cases k3:n.kind=3
  · have hr:dB T=[⟨6,0,[],[],false,0⟩]:=by rw [hE];simp [k3]
    (conv=>arg 4;cbv);simp(maxSteps:=400000)only[↓ax,ay,BEq.rfl,reduceIte,reduceCtorEq,Nat.reduceLT,reduceAdd,reduceSub,reduceMul,Nat.reduceBEq,reduceLeDiff,reduceToNat,reduceLE,hQ,hg0,bf,bg,rP,rQ,bC,reduceEq,n0,n1,k3,hr]
  have n3:=eq_false k3
  by_cases k24:n.kind=2∨n.kind=4
  rotate_left 1
  · have n2:=eq_false fun e:n.kind=2=>k24 (.inl e)
    have n4:=eq_false fun e:n.kind=4=>k24 (.inr e)
    have hr:dB T=kX []:=by rw [hE,if_neg k0,if_neg k1,if_neg k3,if_neg fun e:n.kind=2=>k24 (.inl e),if_neg fun e:n.kind=4=>k24 (.inr e)]
    (conv=>arg 4;cbv);simp(maxSteps:=400000)only[↓ax,ay,BEq.rfl,reduceIte,reduceCtorEq,Nat.reduceLT,reduceAdd,reduceSub,reduceMul,Nat.reduceBEq,reduceLeDiff,reduceToNat,reduceLE,hQ,hg0,bf,bg,rP,rQ,bC,reduceEq,n0,n1,n3,n2,n4,↓nS,Mv,Sl,hr]
    exact zero_le _
  have hk1:n.kind≠1:=k1
  have hps:=hP hk1
  generalize hpp:bM T=ps at *
  have hpl:ps.length=raw.length:=by rw [hps,List.length_map]
  have kk:(n.kind=2∧((n.kind=4)=False))∨((n.kind=2)=False∧n.kind=4):=by
   rcases k24 with e | e
   · exact .inl ⟨e,eq_false (by omega)⟩
   · exact .inr ⟨eq_false (by omega),e⟩
  rcases kk with ⟨k2,n4⟩ | ⟨n2,k4⟩
  · (conv=>arg 4;cbv);simp(maxSteps:=400000)only[↓ax,ay,BEq.rfl,reduceIte,reduceCtorEq,Nat.reduceLT,reduceAdd,reduceSub,reduceMul,Nat.reduceBEq,reduceLeDiff,reduceToNat,reduceLE,hQ,hg0,bf,bg,rP,rQ,bC,reduceEq,n0,n1,n3,k2,n4,↓p9,hpp]
    refine ⟨ho,by omega,?_⟩
    refine wJ ⟨cO 81 [(0,aH T),(5,.aX 0 0),(6,.aX 1 0),(7,.int .i64 1),(43,kJ ps),(44,.int .i64 ps.length),(45,.int .i64 0)],[⟨9,1,[],true,0⟩,⟨28,1,[],true,0⟩]⟩ ps.length ?_ ?_ ?_
     (I:=fun m S=>∃ i v1 v2:Nat,i+m=ps.length∧S=⟨cO 81 [(0,aH T),(5,.aX 0 v1),(6,.aX 1 v2),(7,.int .i64 ((1+(raw.take i).flatten.length:Nat):Int)),(43,kJ ps),(44,.int .i64 ps.length),(45,.int .i64 i)],[⟨9,1,((raw.take i).map Y.nameOf).map .str,true,v1⟩,⟨28,1,((ps.take i).map dB).map aC,true,v2⟩]⟩)
    · simp(maxSteps:=400000)only[↓ax,ay,BEq.rfl,reduceIte,reduceCtorEq,Nat.reduceLT,reduceAdd,reduceSub,reduceMul,Nat.reduceBEq,reduceLeDiff,reduceToNat,reduceLE,List.take_nil]
      refine (Weak.vg 5 9 1 (by rfl)).trans ?_
      rw [mV.1]
      refine (Weak.vg 6 28 1 (by rfl)).trans ?_
      rw [mV.1,EY (m:=[(0,aH T),(5,.aX 0 0),(6,.aX 1 0),(7,.int .i64 1),(43,kJ ps),(44,.int .i64 ps.length),(45,.int .i64 0)])]
      · exact Weak.refl _ _
      · intro i
        simp only [jX]
        by_cases h5:i=5
        · subst h5;rfl
        by_cases h6:i=6
        · subst h6;rfl
        · simp only [h5,h6,if_false]
          repeat' split
          all_goals first | rfl | omega
    · exact ⟨0,0,0,by omega,rfl⟩
    rintro m S ⟨i,v1,v2,him,rfl⟩
    rcases Nat.lt_or_ge i ps.length with h' | h'
    · have hlt:((i:Int)<(ps.length:Int))=True:=eq_true (by omega)
      have hgi:=List.getElem?_eq_getElem h'
      have hpi:=hwp _ (List.getElem_mem h')
      generalize ps[i]=p at hgi hpi
      obtain ⟨q,hq,VO⟩:∃ q,raw[i]?=some q∧Y.jf q=p:=by
       rw [hps,List.getElem?_map] at hgi
       cases hx:raw[i]? with
       | none=>rw [hx] at hgi;cases hgi
       | some q=>rw [hx] at hgi;exact ⟨q,rfl,Option.some.inj hgi⟩
      have hqn:q≠[]:=fun e=>hpi.1.rt.one.ne (by rw [← VO,e];rfl)
      obtain ⟨y,z,hyz,hy⟩:=hrow hq hqn
      have hpq:p.length=q.length:=by rw [← VO,Y.eZ]
      have hyn:Y.nameOf q=y.name:=by rw [hyz];rfl
      have htk:(ps.take (i+1)).map dB=(ps.take i).map dB++[dB p]:=by rw [take_add_one,hgi];simp
      have htn:(raw.take (i+1)).map Y.nameOf=(raw.take i).map Y.nameOf++[y.name]:=by rw [take_add_one,hq];simp [hyn]
      have htf:(raw.take (i+1)).flatten.length=(raw.take i).flatten.length+p.length:=by rw [take_add_one,hq,hpq];simp
      have hlf:(raw.take (i+1)).flatten.length≤raw.flatten.length:=by
       have h2:raw.flatten=(raw.take (i+1)).flatten++(raw.drop (i+1)).flatten:=by rw [← List.flatten_append,List.take_append_drop]
       rw [h2,List.length_append];omega
      have ht3:(ps.take i).length=i:=by rw [length_take];omega
      have ht4:(raw.take i).length=i:=by rw [length_take];omega
      generalize hPl:1+(raw.take i).flatten.length=P at *
      have zp:(0≤(P:Int))=True:=eq_true (by omega)
      simp(maxSteps:=400000)only[↓ax,ay,BEq.rfl,reduceIte,reduceCtorEq,Nat.reduceLT,reduceAdd,reduceSub,reduceMul,Nat.reduceBEq,reduceLeDiff,reduceToNat,reduceLE,hQ,hlt,hgi,zp,hy,ht3,ht4]
      exact ⟨by omega,by omega,by omega,by have:=hpi.2;omega,hpi.1,by omega,by omega,⟨by omega,by omega⟩,⟨by omega,by omega⟩,m-1,by omega,i+1,v1+1,v2+1,by omega,by
       rw [htn,htk,map_append,map_append,show ((1+(raw.take (i+1)).flatten.length:Nat):Int)=(P:Int)+(p.length:Int) by omega,Int.natCast_add,Int.natCast_one];rfl⟩
    · have hlt:((i:Int)<(ps.length:Int))=False:=eq_false (by omega)
      have hi:i=ps.length:=by omega
      subst hi
      have htk:ps.take ps.length=ps:=take_length
      have htr:raw.take ps.length=raw:=by rw [hpl];exact take_length
      rw [htr,htk]
      simp(maxSteps:=400000)only[↓ax,ay,BEq.rfl,reduceIte,reduceCtorEq,Nat.reduceLT,reduceAdd,reduceSub,reduceMul,Nat.reduceBEq,reduceLeDiff,reduceToNat,reduceLE,hQ,hlt]
      refine aQ _ (Weak.freeze 1 0 (zero_le _) _) ?_
      have hr:dB T=gy (gU T) (ps.map dB):=by rw [hE];simp [k2]
      rw [← hNm k2]
      simp(maxSteps:=400000)only[↓ax,ay,BEq.rfl,reduceIte,reduceCtorEq,Nat.reduceLT,reduceAdd,reduceSub,reduceMul,Nat.reduceBEq,reduceLeDiff,reduceToNat,reduceLE,hQ,Ka,Kb,hg0,k2,n4,↓oJ,fQ,reduceEq,hr]
      refine ⟨by have:=hN.1;omega,by omega,fun v hv=>?_,hN.2⟩
      obtain ⟨q,hq,rfl⟩:=List.mem_map.1 hv
      exact (zO (hwp q hq).1.rt).2
  · (conv=>arg 4;cbv);simp(maxSteps:=400000)only[↓ax,ay,BEq.rfl,reduceIte,reduceCtorEq,Nat.reduceLT,reduceAdd,reduceSub,reduceMul,Nat.reduceBEq,reduceLeDiff,reduceToNat,reduceLE,hQ,hg0,bf,bg,rP,rQ,bC,reduceEq,n0,n1,n3,n2,k4,↓p9,hpp]
    refine ⟨ho,by omega,?_⟩
    refine wJ ⟨cO 81 [(0,aH T),(5,.aX 0 0),(6,.aX 1 0),(7,.int .i64 1),(43,kJ ps),(44,.int .i64 ps.length),(45,.int .i64 0)],[⟨9,1,[],true,0⟩,⟨28,1,[],true,0⟩]⟩ ps.length ?_ ?_ ?_
     (I:=fun m S=>∃ i v1 v2:Nat,i+m=ps.length∧S=⟨cO 81 [(0,aH T),(5,.aX 0 v1),(6,.aX 1 v2),(7,.int .i64 ((1+(raw.take i).flatten.length:Nat):Int)),(43,kJ ps),(44,.int .i64 ps.length),(45,.int .i64 i)],[⟨9,1,((raw.take i).map Y.nameOf).map .str,true,v1⟩,⟨28,1,((ps.take i).map dB).map aC,true,v2⟩]⟩)
    · simp(maxSteps:=400000)only[↓ax,ay,BEq.rfl,reduceIte,reduceCtorEq,Nat.reduceLT,reduceAdd,reduceSub,reduceMul,Nat.reduceBEq,reduceLeDiff,reduceToNat,reduceLE,List.take_nil]
      refine (Weak.vg 5 9 1 (by rfl)).trans ?_
      rw [mV.1]
      refine (Weak.vg 6 28 1 (by rfl)).trans ?_
      rw [mV.1,EY (m:=[(0,aH T),(5,.aX 0 0),(6,.aX 1 0),(7,.int .i64 1),(43,kJ ps),(44,.int .i64 ps.length),(45,.int .i64 0)])]
      · exact Weak.refl _ _
      · intro i
        simp only [jX]
        by_cases h5:i=5
        · subst h5;rfl
        by_cases h6:i=6
        · subst h6;rfl
        · simp only [h5,h6,if_false]
          repeat' split
          all_goals first | rfl | omega
    · exact ⟨0,0,0,by omega,rfl⟩
    rintro m S ⟨i,v1,v2,him,rfl⟩
    rcases Nat.lt_or_ge i ps.length with h' | h'
    · have hlt:((i:Int)<(ps.length:Int))=True:=eq_true (by omega)
      have hgi:=List.getElem?_eq_getElem h'
      have hpi:=hwp _ (List.getElem_mem h')
      generalize ps[i]=p at hgi hpi
      obtain ⟨q,hq,VO⟩:∃ q,raw[i]?=some q∧Y.jf q=p:=by
       rw [hps,List.getElem?_map] at hgi
       cases hx:raw[i]? with
       | none=>rw [hx] at hgi;cases hgi
       | some q=>rw [hx] at hgi;exact ⟨q,rfl,Option.some.inj hgi⟩
      have hqn:q≠[]:=fun e=>hpi.1.rt.one.ne (by rw [← VO,e];rfl)
      obtain ⟨y,z,hyz,hy⟩:=hrow hq hqn
      have hpq:p.length=q.length:=by rw [← VO,Y.eZ]
      have hyn:Y.nameOf q=y.name:=by rw [hyz];rfl
      have htk:(ps.take (i+1)).map dB=(ps.take i).map dB++[dB p]:=by rw [take_add_one,hgi];simp
      have htn:(raw.take (i+1)).map Y.nameOf=(raw.take i).map Y.nameOf++[y.name]:=by rw [take_add_one,hq];simp [hyn]
      have htf:(raw.take (i+1)).flatten.length=(raw.take i).flatten.length+p.length:=by rw [take_add_one,hq,hpq];simp
      have hlf:(raw.take (i+1)).flatten.length≤raw.flatten.length:=by
       have h2:raw.flatten=(raw.take (i+1)).flatten++(raw.drop (i+1)).flatten:=by rw [← List.flatten_append,List.take_append_drop]
       rw [h2,List.length_append];omega
      have ht3:(ps.take i).length=i:=by rw [length_take];omega
      have ht4:(raw.take i).length=i:=by rw [length_take];omega
      generalize hPl:1+(raw.take i).flatten.length=P at *
      have zp:(0≤(P:Int))=True:=eq_true (by omega)
      simp(maxSteps:=400000)only[↓ax,ay,BEq.rfl,reduceIte,reduceCtorEq,Nat.reduceLT,reduceAdd,reduceSub,reduceMul,Nat.reduceBEq,reduceLeDiff,reduceToNat,reduceLE,hQ,hlt,hgi,zp,hy,ht3,ht4]
      exact ⟨by omega,by omega,by omega,by have:=hpi.2;omega,hpi.1,by omega,by omega,⟨by omega,by omega⟩,⟨by omega,by omega⟩,m-1,by omega,i+1,v1+1,v2+1,by omega,by
       rw [htn,htk,map_append,map_append,show ((1+(raw.take (i+1)).flatten.length:Nat):Int)=(P:Int)+(p.length:Int) by omega,Int.natCast_add,Int.natCast_one];rfl⟩
    · have hlt:((i:Int)<(ps.length:Int))=False:=eq_false (by omega)
      have hi:i=ps.length:=by omega
      subst hi
      have htk:ps.take ps.length=ps:=take_length
      have htr:raw.take ps.length=raw:=by rw [hpl];exact take_length
      rw [htr,htk]
      simp(maxSteps:=400000)only[↓ax,ay,BEq.rfl,reduceIte,reduceCtorEq,Nat.reduceLT,reduceAdd,reduceSub,reduceMul,Nat.reduceBEq,reduceLeDiff,reduceToNat,reduceLE,hQ,hlt]
      refine aQ _ (Weak.freeze 1 0 (zero_le _) _) ?_
      have hr:dB T=kX (ps.map dB):=by rw [hE];simp [k4]
      simp(maxSteps:=400000)only[↓ax,ay,BEq.rfl,reduceIte,reduceCtorEq,Nat.reduceLT,reduceAdd,reduceSub,reduceMul,Nat.reduceBEq,reduceLeDiff,reduceToNat,reduceLE,hQ,Ka,Kb,hg0,n2,k4,↓nS,Mv,reduceEq,hr]
      exact ⟨by omega,by omega⟩
def wu:dF:=fun args objs K=>match args with
 | [a0]=>f_ aH a0 (HK.mk:HK fun t=>(jl t)∧K (aC (dB t)) objs 0)
 | _=>False
theorem C_:aD Tryz.prog 11 (wu):=by
 intro args objs K h
 unfold wu at h
 split at h
 · rename_i a0
   obtain ⟨t,rfl,h1,hk⟩:=h
   exact ⟨_,_,_,.pure _ rfl (TL t.length t (Nat.le_refl _) h1),hk⟩
 · exact h.elim
end Lp
set_option maxRecDepth 100000
namespace Lp
open Go Go.Proofs
open Nat (reduceAdd reduceLeDiff reduceMul reduceSub)
open Int (reduceLE reduceToNat)
set_option maxHeartbeats 4000000
def manyN (n:Int):Nat:=(min (max n 0) 1000000).toNat
theorem VH (t:bq) (n:Int) (hw:jl t):ah Tryz.prog 14 [aH t,.int .i64 n] [] (dh (List.replicate (manyN n) (dB t))) []:=by
 refine Ry.aZ (T:=aO Tryz.prog [(11,wu)]) 1 hD (aj (af C_ ai)) aT (by decide) fun Q hQ=>?_
 have hM:(if (1000000:Int)<(if (0:Int) > n then 0 else n) then (1000000:Int) else if (0:Int) > n then 0 else n)=(manyN n:Int):=by
  unfold manyN
  repeat' split
  all_goals omega
 have hMl:manyN n≤1000000:=by unfold manyN;omega
 generalize manyN n=M at *
 (conv=>arg 4;cbv);simp(maxSteps:=400000)only[↓ax,ay,BEq.rfl,reduceIte,reduceCtorEq,Nat.reduceLT,reduceAdd,reduceSub,reduceMul,Nat.reduceBEq,reduceLeDiff,reduceToNat,reduceLE,hQ,↓wu,hM]
 refine ⟨hw,?_⟩
 refine wJ ⟨cO 20 [(5,.aX 0 0),(6,aC (dB t)),(11,.int .i64 M),(12,.int .i64 0)],[⟨28,1,[],true,0⟩]⟩ M ?_ ?_ ?_
  (I:=fun m S=>∃ i v:Nat,i+m=M∧S=⟨cO 20 [(5,.aX 0 v),(6,aC (dB t)),(11,.int .i64 M),(12,.int .i64 i)],[⟨28,1,(List.replicate i (dB t)).map aC,true,v⟩]⟩)
 · simp(maxSteps:=400000)only[↓ax,ay,BEq.rfl,reduceIte,reduceCtorEq,Nat.reduceLT,reduceAdd,reduceSub,reduceMul,Nat.reduceBEq,reduceLeDiff,reduceToNat,reduceLE,List.take_nil]
   refine (Weak.vg 5 28 1 (by rfl)).trans ?_
   rw [mV.1,EY (m:=[(5,.aX 0 0),(6,aC (dB t)),(11,.int .i64 M),(12,.int .i64 0)])]
   · exact Weak.refl _ _
   · intro i
     simp only [jX]
     by_cases h5:i=5
     · subst h5;rfl
     · simp only [h5,if_false]
       repeat' split
       all_goals first | rfl | omega
 · exact ⟨0,0,by omega,rfl⟩
 rintro m S ⟨i,v,him,rfl⟩
 rcases Nat.lt_or_ge i M with h | h
 · have hlt:((i:Int)<(M:Int))=True:=eq_true (by omega)
   have hrl:(List.replicate i (dB t)).length=i:=List.length_replicate
   simp(maxSteps:=400000)only[↓ax,ay,BEq.rfl,reduceIte,reduceCtorEq,Nat.reduceLT,reduceAdd,reduceSub,reduceMul,Nat.reduceBEq,reduceLeDiff,reduceToNat,reduceLE,hQ,hlt,hrl]
   exact ⟨by omega,by omega,⟨by omega,by omega⟩,m-1,by omega,i+1,v+1,by omega,by rw [List.replicate_succ',List.map_append,Int.natCast_add,Int.natCast_one];rfl⟩
 · have hi:i=M:=by omega
   subst hi
   have hlt:((i:Int)<(i:Int))=False:=eq_false (by omega)
   simp(maxSteps:=400000)only[↓ax,ay,BEq.rfl,reduceIte,reduceCtorEq,Nat.reduceLT,reduceAdd,reduceSub,reduceMul,Nat.reduceBEq,reduceLeDiff,reduceToNat,reduceLE,hQ,hlt,l_]
def sj:dF:=fun args objs K=>match args with
 | [a0,.int .i64 n]=>f_ aH a0 (HK.mk:HK fun t=>(jl t)∧K (dh (List.replicate (manyN n) (dB t))) objs 0)
 | _=>False
theorem DX:aD Tryz.prog 14 (sj):=by
 intro args objs K h
 unfold sj at h
 split at h
 · rename_i a0 n
   obtain ⟨t,rfl,h1,hk⟩:=h
   exact ⟨_,_,_,.pure _ rfl (VH t n h1),hk⟩
 · exact h.elim
theorem PU (t:bq) (n:Int) (hw:jl t):ah Tryz.prog 15 [aH t,.int .i64 n] [] (dh (List.replicate (manyN n) (dB t))) []:=by
 refine Bu.aZ (T:=aO Tryz.prog [(12,xu)]) 1 hD (aj (af G_ ai)) aT (by decide) fun Q hQ=>?_
 have hM:manyN n=(min (max n 0) 1000000).toNat:=rfl
 generalize manyN n=M at *
 (conv=>arg 4;cbv);simp(maxSteps:=400000)only[↓ax,ay,BEq.rfl,reduceIte,reduceCtorEq,Nat.reduceLT,reduceAdd,reduceSub,reduceMul,Nat.reduceBEq,reduceLeDiff,reduceToNat,reduceLE,hQ]
 refine aF (fun m S=>∃ i v:Nat,i+m=M∧S=⟨cO 23 [(0,aH t),(1,.int .i64 n),(5,.aX 0 v),(6,.int .i64 i)],[⟨28,1,(List.replicate i (dB t)).map aC,true,v⟩]⟩) M ⟨0,1,by omega,?_⟩ ?_
 · simp only [bI,keepR,reduceAdd,kT,Nat.reduceBEq,List.map_nil]
   rfl
 rintro m S ⟨i,v,him,rfl⟩
 rcases Nat.lt_or_ge i M with h | h
 · have l1:((i:Int)<n)=True:=eq_true (by omega)
   have l2:((i:Int)<1000000)=True:=eq_true (by omega)
   have hrl:(List.replicate i (dB t)).length=i:=List.length_replicate
   simp(maxSteps:=400000)only[↓ax,ay,BEq.rfl,reduceIte,reduceCtorEq,Nat.reduceLT,reduceAdd,reduceSub,reduceMul,Nat.reduceBEq,reduceLeDiff,reduceToNat,reduceLE,hQ,l1,l2,↓xu,hrl]
   exact ⟨hw,by omega,by omega,⟨by omega,by omega⟩,m-1,by omega,i+1,v+1,by omega,by rw [List.replicate_succ',List.map_append,Int.natCast_add,Int.natCast_one];rfl⟩
 · have hi:i=M:=by omega
   subst hi
   by_cases g:(i:Int)<n
   · have l1:=eq_true g
     have l2:((i:Int)<1000000)=False:=eq_false (by omega)
     simp(maxSteps:=400000)only[↓ax,ay,BEq.rfl,reduceIte,reduceCtorEq,Nat.reduceLT,reduceAdd,reduceSub,reduceMul,Nat.reduceBEq,reduceLeDiff,reduceToNat,reduceLE,hQ,l1,l2,l_]
   · have l1:=eq_false g
     simp(maxSteps:=400000)only[↓ax,ay,BEq.rfl,reduceIte,reduceCtorEq,Nat.reduceLT,reduceAdd,reduceSub,reduceMul,Nat.reduceBEq,reduceLeDiff,reduceToNat,reduceLE,hQ,l1,l_]
def xA:dF:=fun args objs K=>match args with
 | [a0,.int .i64 n]=>f_ aH a0 (HK.mk:HK fun t=>(jl t)∧K (dh (List.replicate (manyN n) (dB t))) objs 0)
 | _=>False
theorem ME:aD Tryz.prog 15 (xA):=by
 intro args objs K h
 unfold xA at h
 split at h
 · rename_i a0 n
   obtain ⟨t,rfl,h1,hk⟩:=h
   exact ⟨_,_,_,.pure _ rfl (PU t n h1),hk⟩
 · exact h.elim
end Lp
set_option maxRecDepth 100000
namespace Lp
open Go Go.Proofs
open Nat (reduceAdd reduceLeDiff reduceMul reduceSub)
set_option maxHeartbeats 4000000
def ty1:bq:=[⟨2,1,[],[],0,aW⟩,⟨1,0,[97],[],24,aW⟩]
def ty0:bq:=[⟨0,0,[],[],0,aW⟩]
theorem VI:fG ty1=true:=by decide
theorem VJ:fG ty0=true:=by decide
theorem uE {t:bq}(h:fG t=true) (hl:t.length≤100000) (hc:∀ n ∈ t,n.c.s.length≤500000∧n.name.length≤4611686018427387904):jl t:=
 ⟨JY h,hl,fun n hn=>(hc n hn).1,fun n hn=>(hc n hn).2⟩
theorem Sw:jl ty1:=uE VI (by decide) (by decide)
theorem abe:jl ty0:=uE VJ (by decide) (by decide)
theorem abf {t:bq}{k:Nat}(hk:k≤100000) (h:Ms t k=true):jl t∧t.length≤k:=by
 simp only [Ms,Bool.and_eq_true,decide_eq_true_eq,List.all_eq_true] at h
 obtain ⟨⟨h1,h2⟩,h3⟩:=h
 simp only [qB,Bool.and_eq_true] at h3
 refine ⟨uE h3.1 (by omega) fun n hn=>?_,h1⟩
 have:=h2 n hn
 simp only [jr,Bool.and_eq_true,decide_eq_true_eq] at this
 omega
theorem Zn:dB ty1=[⟨6,1,[],[],false,0⟩,⟨3,0,[97],[],false,0⟩]:=by decide
theorem Zo:dB ty0=[aW]:=by decide
theorem adf (objs:List Obj) (K:KT) :
  (∀ k m,bE D 44 [(0,.int .i64 k),(1,.int .i64 m)] objs K=K (bB ⟨k,m,[],[],0,aW⟩) objs 0)∧
  (∀ k n nm,bE D 44 [(0,.int .i64 k),(4,.int .i64 n),(2,.str nm)] objs K=K (bB ⟨k,0,nm,[],n,aW⟩) objs 0):=by
 have z:aK (D 44)=bB ⟨0,0,[],[],0,aW⟩:=by kernel_rfl
 have a:(D 44).agg=true:=by kernel_rfl
 simp only [bS] at z a
 refine ⟨fun k m=>?_,fun k n nm=>?_⟩
 all_goals
  simp [bE,mJ,a,z,bS,nK,bB,au,aW,PV.isAgg,sM,PV.cells,PV.storable,PV.mr,PV.pure]
theorem MF:ah Tryz.prog 9 [] [] (.bool true) []:=by
 refine zC.aZ (T:=aO Tryz.prog [(11,wu),(14,sj)]) 0 hD (aj (af C_ (af DX ai))) aT (by decide) fun Q hQ=>?_
 have e1:([⟨2,1,[],[],0,aW⟩,⟨1,0,[97],[],24,aW⟩]:bq)=ty1:=rfl
 have e0:([⟨0,0,[],[],0,aW⟩]:bq)=ty0:=rfl
 have m3:manyN 3=3:=rfl
 have m0:manyN (-1)=0:=rfl
 (conv=>arg 4;cbv);simp(maxSteps:=400000)only[↓ax,ay,BEq.rfl,reduceIte,reduceCtorEq,Nat.reduceLT,reduceAdd,reduceSub,reduceMul,Nat.reduceBEq,reduceLeDiff,Int.reduceToNat,Int.reduceLE,hQ,sw,adf,iE,iI,Bv,bC,dY,↓wu,↓sj,e1,e0,m3,m0,Zn,Zo]
 refine ⟨Sw,fun _=>⟨Sw,fun _=>⟨Sw,fun _=>⟨abe,rfl⟩,fun h=>absurd rfl h⟩,fun h=>absurd rfl h⟩,fun h=>absurd rfl h⟩
def zJ:dF:=fun args objs K=>args=[]∧K (.bool true) objs 0
theorem Je:aD Tryz.prog 9 zJ:=by
 rintro args objs K ⟨rfl,hk⟩
 exact ⟨_,_,_,.pure _ rfl MF,hk⟩
theorem uF (objs:List Obj) (K:KT):zJ [] objs K=K (.bool true) objs 0:=propext ⟨fun h=>h.2,fun h=>⟨rfl,h⟩⟩
structure Ya (t:bq):Prop where
 len:t.length≤4611686018427387904
 txt:∀ n ∈ t,n.s.length≤4611686018427387904∧n.name.length≤4611686018427387904∧n.c.s.length≤4611686018427387904
 cnm:∀ n ∈ t,n.c.name.length≤4611686018427387904
theorem Jf (t:bq) (n:Int) (hr:Ya t):ah Tryz.prog 3 [aH t,.int .i64 n] [] (.bool true) []:=by
 refine uR.aZ (T:=aO Tryz.prog [(9,zJ),(8,r_),(11,wu),(12,xu),(10,tC),(14,sj),(15,xA),(13,AO)]) 0 hD (aj (af Je (af Py (af C_ (af G_ (af Gb (af DX (af ME (af NS ai))))))))) aT (by decide) fun Q hQ=>?_
 have t60:Int.toNat 60=60:=rfl
 cases hf:Ms t 60 with
 | false=>
  (conv=>arg 4;cbv);simp(maxSteps:=400000)only[↓ax,ay,BEq.rfl,reduceIte,reduceCtorEq,Nat.reduceLT,reduceAdd,reduceSub,reduceMul,Nat.reduceBEq,reduceLeDiff,Int.reduceToNat,Int.reduceLE,hQ,↓uF,↓r_,t60,hf]
  exact ⟨hr.len,hr.txt,hr.cnm⟩
 | true=>
  obtain ⟨hw,hl⟩:=abf (by decide) hf
  by_cases hn:(100:Int)<n
  · have hn':=eq_true hn
    (conv=>arg 4;cbv);simp(maxSteps:=400000)only[↓ax,ay,BEq.rfl,reduceIte,reduceCtorEq,Nat.reduceLT,reduceAdd,reduceSub,reduceMul,Nat.reduceBEq,reduceLeDiff,Int.reduceToNat,Int.reduceLE,hQ,↓uF,↓r_,t60,hf,hn']
    exact ⟨hr.len,hr.txt,hr.cnm⟩
  · have hn':=eq_false hn
    have hM:manyN n≤100:=by unfold manyN;omega
    have hwl:=zO hw.rt
    have d1:decide (dB t=dB t)=true:=decide_eq_true rfl
    have d2:decide (List.replicate (manyN n) (dB t)=List.replicate (manyN n) (dB t))=true:=decide_eq_true rfl
    (conv=>arg 4;cbv);simp(maxSteps:=400000)only[↓ax,ay,BEq.rfl,reduceIte,reduceCtorEq,Nat.reduceLT,reduceAdd,reduceSub,reduceMul,Nat.reduceBEq,reduceLeDiff,Int.reduceToNat,Int.reduceLE,hQ,↓uF,↓r_,t60,hf,hn',↓wu,↓xu,↓tC,↓sj,↓xA,↓AO,d1,d2]
    have hrep:∀ v ∈ List.replicate (manyN n) (dB t),v.length≤1000000:=fun v hv=>by rw [List.eq_of_mem_replicate hv];omega
    exact ⟨hr.len,hr.txt,hr.cnm,hw,hw,by omega,by omega,hw,hw,by omega,by omega,hrep,hrep⟩
end Lp
set_option maxRecDepth 100000
namespace Lp
open Go Go.Proofs Go.RowKit
set_option maxHeartbeats 8000000
end Lp
set_option maxRecDepth 100000
namespace Lp
open Go Go.Proofs
set_option maxHeartbeats 2000000
instance :Inhabited Nd:=⟨⟨0,0,[],[],false,0⟩⟩
structure VK (n:Nd):Prop where
 kind:He .i64 n.kind
 many:He .i64 n.many
 name:n.name.length≤reachBytes
 s:n.s.length≤reachBytes
 e:He .i64 n.e
theorem one_cell {t:TypeId}(hc:Tryz.prog.cellsOf t=1){cs:List Value}{off:Nat}{v:Value}(h:cs[off]?=some v):(cs.drop off).take (Tryz.prog.cellsOf t)=[v]:=by
 rw [hc]
 have hl:=(List.getElem?_eq_some_iff.1 h).1
 rw [show (cs.drop off)=cs[off]::cs.drop (off+1) from List.drop_eq_getElem_cons hl]
 rw [List.getElem?_eq_getElem hl] at h
 cases h
 rw [List.take_succ_cons,List.take_zero]
theorem DY:Tryz.prog.underlying 3=some (.int .i64):=by kernel_rfl
theorem BL:Tryz.prog.underlying 9=some .string:=by kernel_rfl
theorem abg:Tryz.prog.underlying 4=some .bool:=by kernel_rfl
theorem Kc:Tryz.prog.cellsOf 3=1:=by kernel_rfl
theorem BM:Tryz.prog.cellsOf 9=1:=by kernel_rfl
theorem abh:Tryz.prog.cellsOf 4=1:=by kernel_rfl
theorem abj:∃ fs:Array Field,Tryz.prog.underlying 42=some (.struct fs)∧fs.toList.map (fun f=>(f.offset,f.type))=[(0,3),(1,3),(2,9),(3,9),(4,4),(5,3)]:=
 ⟨Tryz.prog.fieldsOf 42,by kernel_rfl,by kernel_rfl⟩
theorem Zp:Rd Tryz.prog 42 au VK:=by
 intro H eh w fuel cs x h hw
 obtain ⟨fs,ht,hfs⟩:=abj
 obtain ⟨hl,hp⟩:=Av ht h hw
 rw [hfs] at hp
 have hc:Tryz.prog.cellsOf 42=6:=by kernel_rfl
 rw [hc] at hl
 match cs,hl with
 | [v0,v1,v2,v3,v4,v5],_=>
  obtain ⟨n0,y0,a0,b0⟩:=hp 0 0 3 rfl
  obtain ⟨n1,y1,a1,b1⟩:=hp 1 1 3 rfl
  obtain ⟨n2,y2,a2,b2⟩:=hp 2 2 9 rfl
  obtain ⟨n3,y3,a3,b3⟩:=hp 3 3 9 rfl
  obtain ⟨n4,y4,a4,b4⟩:=hp 4 4 4 rfl
  obtain ⟨n5,y5,a5,b5⟩:=hp 5 5 3 rfl
  rw [one_cell Kc (v:=v0) rfl] at a0
  rw [one_cell Kc (v:=v1) rfl] at a1
  rw [one_cell BM (v:=v2) rfl] at a2
  rw [one_cell BM (v:=v3) rfl] at a3
  rw [one_cell abh (v:=v4) rfl] at a4
  rw [one_cell Kc (v:=v5) rfl] at a5
  obtain ⟨k,g0,r0⟩:=Rd.int DY eh w n0 _ _ a0 b0
  obtain ⟨m,g1,r1⟩:=Rd.int DY eh w n1 _ _ a1 b1
  obtain ⟨nm,g2,r2⟩:=Rd.str BL eh w n2 _ _ a2 b2
  obtain ⟨s,g3,r3⟩:=Rd.str BL eh w n3 _ _ a3 b3
  obtain ⟨g,_,r4⟩:=Rd.bool abg eh w n4 _ _ a4 b4
  obtain ⟨e,g5,r5⟩:=Rd.int DY eh w n5 _ _ a5 b5
  refine ⟨⟨k,m,nm,s,g,e⟩,⟨g0,g1,g2,g3,g5⟩,rfl,fun i p v h1 h2=>?_⟩
  match i with
  | 0=>simp [au,PV.cells] at h1 h2;subst h1;subst h2;exact r0.2 0 _ _ rfl rfl
  | 1=>simp [au,PV.cells] at h1 h2;subst h1;subst h2;exact r1.2 0 _ _ rfl rfl
  | 2=>simp [au,PV.cells] at h1 h2;subst h1;subst h2;exact r2.2 0 _ _ rfl rfl
  | 3=>simp [au,PV.cells] at h1 h2;subst h1;subst h2;exact r3.2 0 _ _ rfl rfl
  | 4=>simp [au,PV.cells] at h1 h2;subst h1;subst h2;exact r4.2 0 _ _ rfl rfl
  | 5=>simp [au,PV.cells] at h1 h2;subst h1;subst h2;exact r5.2 0 _ _ rfl rfl
  | i+6=>simp [au,PV.cells] at h1
structure Big (v:Vl):Prop where
 len:v.length≤1152921504606846976
 txt:∀ n ∈ v,n.s.length≤4611686018427387904∧n.name.length≤4611686018427387904
 nd:∀ n ∈ v,VK n
structure adq (l:List Vl):Prop where
 len:l.length≤1152921504606846976
 all:∀ v ∈ l,Big v
theorem adg {t e:TypeId}{α:Type}{enc:α→PV}{good:α→Prop}(hu:Tryz.prog.underlying t=some (.slice e)) (hr:Rd Tryz.prog t enc good) (h1:∀ a,(enc a).cells=[enc a]){H:Type}{eh:TypeId×Value→H}{w:World}{base:Nat}{v:Value}{d:DataW H}{p:List MemPlace}
  (hv:Value.okWide Tryz.prog w .any base t v) (h:DataW.Trod eh Tryz.prog w 0 (fun _=>true) true t v d p) (hw:∀ n ∈ DataW.weights Tryz.prog t d,n≤reachBytes):∃ a:α,good a∧dA w (fun _=>True) (enc a) v:=by
 obtain ⟨ad,len,cap,rfl⟩:=Go.WideShapes.okWide_slice hu hv
 obtain ⟨fuel,h⟩:=h
 obtain ⟨a,g,r⟩:=hr eh w fuel _ _ h hw
 rw [h1 a] at r
 exact ⟨a,g,r.2 0 _ _ rfl rfl⟩
theorem iW {R:PV→Value→Prop}{p:PV}{ps:List PV}{v:Value}{vs:List Value}(h:R p v) (hs:b_ R ps vs):b_ R (p::ps) (v::vs):=
 ⟨by simp [hs.1],fun i q u h1 h2=>by
  cases i with
  | zero=>simp at h1 h2;subst h1;subst h2;exact h
  | succ i=>exact hs.2 i q u (by simpa using h1) (by simpa using h2)⟩
theorem Yb {R:PV→Value→Prop}:b_ R [] []:=⟨rfl,fun i q u h1=>by simp at h1⟩
end Lp
set_option maxRecDepth 100000
namespace Lp
open Go Go.Proofs Go.RowKit
set_option maxHeartbeats 8000000
structure adk (l:List lG):Prop where
 len:l.length≤1152921504606846976
 all:∀ a ∈ l,rV a.c
end Lp
set_option maxRecDepth 100000
namespace Lp
open Go Go.Proofs Go.Shelf Go.RowKit Go.Lib Go.ChangeAt
set_option maxHeartbeats 2000000
def Yc:List (String×DataW Unit):=[("unicode/utf8.acceptRanges",Lib.acceptData),("unicode/utf8.first",Lib.firstData)]
noncomputable def VL (os:Os):World:=
 let w0:=World.holding Tryz.prog os ⟨#[],#[],[]⟩
 let put (h:Array Go.Obj) (g:Nat) (cs:Array Value):Array Go.Obj:=h.modify g fun
  | .cells _ t frozen=>.cells cs t frozen
  | o=>o
 let h1:=put w0.heap 0 (Lib.firstTab.map fun z=>Value.int .u8 z).toArray
 let h2:=put h1 1 ((List.range 16).flatMap fun i=>[Value.int .u8 (Lib.accLo i),Value.int .u8 (Lib.accHi i)]).toArray
 { w0 with heap:=h2 }
theorem acw (os:Os) (args:Array Value):laidMet Tryz.prog Yc ((VL os).forCall (fun _ _=>0) ⟨#[],args,[]⟩).memory:=
 (LaidIn.of_run (l:=Yc) [1,0] 8 (by kernel_rfl) (by kernel_rfl) (by kernel_rfl) (by kernel_rfl)).met
theorem VN {w W:World}(h:w.heap=W.heap) (hT:Lib.Utf8Tabs 0 1 W):Lib.Utf8Tabs 0 1 w:=by
 have e:∀ b:Nat,w.heap[b]?=W.heap[b]?:=fun b=>by rw [h]
 refine ⟨fun c hc=>?_,fun i hi=>⟨?_,?_⟩⟩
 · rw [oM (e 0)];exact hT.1 c hc
 · rw [oM (e 1)];exact (hT.2 i hi).1
 · rw [oM (e 1)];exact (hT.2 i hi).2
theorem abq {W:World}(h:laidMetH Tryz.prog Yc W):qE.holds W.heap:=by
 have hT:Lib.Utf8Tabs 0 1 W:=
  utf8Tabs_of_readsT (U8Types.of196 Tryz.KY) ⟨by kernel_rfl,by kernel_rfl,by kernel_rfl,by kernel_rfl,by kernel_rfl,by kernel_rfl,by kernel_rfl⟩ (Lib.laidMet.reads h (.tail _ (.head _))) (Lib.laidMet.reads h (.head _))
 intro w hw
 exact VN hw hT
structure adr (l:List (List UInt8)):Prop where
 len:l.length≤1152921504606846976
 all:∀ s ∈ l,s.length≤4611686018427387904
end Lp
set_option maxRecDepth 100000
namespace Lp
open Go Go.Proofs
set_option maxHeartbeats 2000000
instance :Inhabited lG:=⟨⟨0,⟨0,0,[],[],false,0⟩⟩⟩
structure ads (a:lG):Prop where
 n:He .i64 a.n
 c:VK a.c
theorem VK.sm {n:Nd}(h:VK n):rV n:=by
 have h1:=h.name
 have h2:=h.s
 rw [reachBytes] at h1 h2
 exact ⟨by omega,by omega⟩
section
variable {H:Type}{eh:TypeId×Value→H}{w:World}{base:Nat}{v:Value}{d:DataW H}{p:List MemPlace}
theorem adt (hv:Value.okWide Tryz.prog w .any base 3 v) (h:DataW.Trod eh Tryz.prog w 0 (fun _=>true) true 3 v d p) (hw:∀ n ∈ DataW.weights Tryz.prog 3 d,n≤reachBytes) :
  ∃ a:Int,(-9223372036854775808≤a∧a≤9223372036854775807)∧dA w (fun _=>True) (.int .i64 a) v:=by
 obtain ⟨n,rfl⟩:=Go.WideShapes.okWide_int DY hv
 obtain ⟨fuel,h⟩:=h
 obtain ⟨a,g,r⟩:=Rd.int DY eh w fuel _ _ h hw
 exact ⟨a,by simpa [He] using g,r.2 0 _ _ rfl rfl⟩
end
end Lp
set_option maxRecDepth 100000
namespace Lp
open Go Go.Proofs
set_option maxHeartbeats 2000000
theorem adh:∃ fs:Array Field,Tryz.prog.underlying 44=some (.struct fs)∧fs.toList.map (fun f=>(f.offset,f.type))=[(0,3),(1,3),(2,9),(3,9),(4,3),(5,42)]:=
 ⟨Tryz.prog.fieldsOf 44,by kernel_rfl,by kernel_rfl⟩
instance :Inhabited fK:=⟨⟨0,0,[],[],0,⟨0,0,[],[],false,0⟩⟩⟩
structure adi (a:fK):Prop where
 name:a.name.length≤reachBytes
 s:a.s.length≤reachBytes
 c:VK a.c
theorem acy:Rd Tryz.prog 44 bB adi:=by
 intro H eh w fuel cs x h hw
 obtain ⟨fs,ht,hfs⟩:=adh
 obtain ⟨hl,hp⟩:=Av ht h hw
 rw [hfs] at hp
 have hc:Tryz.prog.cellsOf 44=11:=by kernel_rfl
 rw [hc] at hl
 match cs,hl with
 | [v0,v1,v2,v3,v4,v5,v6,v7,v8,v9,v10],_=>
  obtain ⟨n0,y0,a0,b0⟩:=hp 0 0 3 rfl
  obtain ⟨n1,y1,a1,b1⟩:=hp 1 1 3 rfl
  obtain ⟨n2,y2,a2,b2⟩:=hp 2 2 9 rfl
  obtain ⟨n3,y3,a3,b3⟩:=hp 3 3 9 rfl
  obtain ⟨n4,y4,a4,b4⟩:=hp 4 4 3 rfl
  obtain ⟨n5,y5,a5,b5⟩:=hp 5 5 42 rfl
  have hcd:Tryz.prog.cellsOf 42=6:=by kernel_rfl
  rw [hcd] at a5
  rw [one_cell Kc (v:=v0) rfl] at a0
  rw [one_cell Kc (v:=v1) rfl] at a1
  rw [one_cell BM (v:=v2) rfl] at a2
  rw [one_cell BM (v:=v3) rfl] at a3
  rw [one_cell Kc (v:=v4) rfl] at a4
  obtain ⟨k,g0,r0⟩:=Rd.int DY eh w n0 _ _ a0 b0
  obtain ⟨m,g1,r1⟩:=Rd.int DY eh w n1 _ _ a1 b1
  obtain ⟨nm,g2,r2⟩:=Rd.str BL eh w n2 _ _ a2 b2
  obtain ⟨s,g3,r3⟩:=Rd.str BL eh w n3 _ _ a3 b3
  obtain ⟨n,g4,r4⟩:=Rd.int DY eh w n4 _ _ a4 b4
  obtain ⟨c,g5,r5⟩:=Zp eh w n5 _ _ a5 b5
  refine ⟨⟨k,m,nm,s,n,c⟩,⟨g2,g3,g5⟩,?_⟩
  exact iW (r0.2 0 _ _ rfl rfl) (iW (r1.2 0 _ _ rfl rfl) (iW (r2.2 0 _ _ rfl rfl) (iW (r3.2 0 _ _ rfl rfl) (iW (r4.2 0 _ _ rfl rfl)
   (iW (r5.2 0 _ v5 rfl rfl) (iW (r5.2 1 _ v6 rfl rfl) (iW (r5.2 2 _ v7 rfl rfl) (iW (r5.2 3 _ v8 rfl rfl) (iW (r5.2 4 _ v9 rfl rfl) (iW (r5.2 5 _ v10 rfl rfl) Yb))))))))))
theorem abk:Tryz.prog.underlying 23=some (.slice 44):=by kernel_rfl
theorem acB:Rd Tryz.prog 23 aH Ya:=by
 intro H eh w fuel cs x h hw
 obtain ⟨v,⟨h1,h2⟩,h3⟩:=Rd.slice (sz:=11) abk acy (by kernel_rfl) (by decide) (fun _=>rfl) eh w fuel cs x h hw
 have hb:Tryz.prog.bytesOf 44=120:=by kernel_rfl
 rw [hb,reachBytes] at h1
 refine ⟨v,⟨by omega,fun n hn=>?_,fun n hn=>?_⟩,h3⟩
 · have g:=h2 n hn
   have g1:=g.name
   have g2:=g.s
   have g3:=g.c.s
   rw [reachBytes] at g1 g2 g3
   exact ⟨by omega,by omega,by omega⟩
 · have g:=(h2 n hn).c.name
   rw [reachBytes] at g
   omega
end Lp
set_option maxRecDepth 100000
namespace Lp
open Go Go.Proofs
theorem Yj (t:bq) (n:Int) (hr:Ya t) (_:-9223372036854775808≤n∧n≤9223372036854775807):ah Tryz.prog 3 [aH t,.int .i64 n] [] (.bool true) []:=Jf t n hr
end Lp
set_option maxRecDepth 100000
namespace Lp
open Go
theorem gJ {a b:Bool}(ha:a=true) (hb:b=true):(a && b)=true:=by rw [ha,hb];rfl
theorem abr {P:Program}{f:FuncId}{fn:Func}{s:ChangeSpec}{c:OpenClaim}
  (h0:(c.wf (OpenSpec.ofChange s))=true)
  (h1:(laidOutB P)=true)
  (h2:(mapsRowed P)=true)
  (h3:(fn.params.all (P.readableRec ·))=true)
  (h4:(namedTie P c.named s.vars)=true)
  (h5:((c.stops==[]))=true)
  (h6:((P.stops==[]))=true)
  (h7:((c.knobs==[]))=true)
  (h8:((P.stopKnobs==[]))=true)
  (h9:((c.inPlace==P.inPlace f))=true)
  (h10:((c.unfollowed==P.unfollowed f))=true)
  (h11:((c.recurses==P.recurses f))=true)
  (h12:((c.named==P.varsNamed f))=true)
  (h13:((c.maps==(fn.params.toList++s.plain.varTypes P).any (P.mapsRec ·)))=true)
  (h14:((c.ifaces==(fn.params.toList++s.plain.varTypes P).any (P.ifacesRec ·)))=true)
  (h15:((c.mapsOut==P.mapsAmong fn.resultTypes.toList))=true)
  (h16:((c.loops==(fn.params.toList++s.plain.varTypes P).any (P.loopsFrom ·)))=true)
  (h17:((c.wideKeys==(fn.params.toList++s.plain.varTypes P++fn.resultTypes.toList).any (P.wideKeysFrom ·)))=true)
  (h18:(s.vars.all (P.varReadable ·))=true)
  (h19:(fn.resultTypes.all (fun t=>P.readableRec t && decide (t<P.types.size)))=true)
  (h20:((c.ifacesOut==fn.resultTypes.toList.any (P.ifacesRec ·)))=true)
  (h21:((c.loopsOut==fn.resultTypes.toList.any (P.loopsFrom ·)))=true)
  (h22:((c.plainKeys==P.plainKeys))=true)
  (h23:(c.shortTexts.isNone)=true)
  (h24:(P.stopsHeard)=true)
  (h25:(P.mayEnter)=true)
  (h26:((c.lifted==P.liftsFinal))=true)
  (h27:((P.make==some c.make))=true)
  (h28:((c.kinds==(if c.domain.isEmpty then [] else fn.params.toList.map fun t=>match P.underlying t with | some (.int k)=>some k | _=>none)))=true)
  (h29:((c.pinned==c.pinnedBy))=true)
  (h30:((c.veiled==(fn.params.toList++s.plain.varTypes P++fn.resultTypes.toList).any (P.veiledRec ·)))=true)
  (h31:(c.veiledFits P fn.params.toList (fn.params.toList++s.plain.varTypes P++fn.resultTypes.toList))=true):joinedFacts P f fn s c=true:=by
 unfold joinedFacts
 exact (gJ (gJ (gJ (gJ (gJ (gJ (gJ (gJ (gJ (gJ (gJ (gJ (gJ (gJ (gJ (gJ (gJ (gJ (gJ (gJ (gJ (gJ (gJ (gJ (gJ (gJ (gJ (gJ (gJ (gJ (gJ h0 h1) h2) h3) h4) h5) h6) h7) h8) h9) h10) h11) h12) h13) h14) h15) h16) h17) h18) h19) h20) h21) h22) h23) h24) h25) h26) h27) h28) h29) h30) h31)
end Lp
