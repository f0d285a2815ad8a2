/-
  Part 6 of what the statement rests on: LpE4, LpE5, LpE6, LpTC1, LpTR, LpE7, LpE8, LpTC2, LpTB4, LpTD1, LpTF0, LpTF2, LpTE1, LpTE2, LpTE3, LpTF3, LpTF4, LpTF5, LpE9, LpRd, LpMA1, LpTie, LpRdA, LpRdY, LpTF1, LpTF6, LpRdM, LpJn, LpC11, LpTF7, LpRdP. No condition.
-/
import Derived.Test.YtfgfjbcoeakonaaGreatDoorLp5
import Derived.Laws.IdiomStrings
import Derived.WalkKit
import Derived.Sort.Row
import Derived.Lib.LaidIn
import Derived.Lib.LaidU8T
import Derived.Deep.DeepHandedRow
import Derived.Deep.DeepWitnessRowRef
import Derived.ProofKit
import Derived.SizedLaws
import Derived.JoinedCond
import Derived.OpenShut
import Derived.JoinedOf

set_option linter.all false
set_option maxHeartbeats 8000000
set_option maxRecDepth 100000
namespace Lp
open Go Go.Proofs Go.RowKit
open Nat (reduceAdd reduceLeDiff reduceMul reduceSub)
open Int (reduceLE reduceToNat)
theorem G5 (s:List UInt8):ah Tryz.prog 119 [.str s,.str [48]] [] (.str (Lib.trimLeftB s 48)) []:=by
 refine ah.oK ⟨_,Tryz.Tk.f161,by kernel_rfl,by kernel_rfl⟩ fun w vs ok hg hr=>?_
 obtain ⟨u,v,rfl,h,h'⟩:=U4 hr
 cases jS h
 cases jS h'
 refine (Any.strings_TrimLeft_one Tryz.Tk ⟨⟨s⟩⟩ 48 (by decide) w).mono ?_
 rintro e w' ⟨h1,rfl⟩
 exact ⟨_,h1,fun w ok=>.str _,.refl _ _⟩
theorem Et (s:List UInt8) (c:UInt8) (hc:c.toNat<128) (hs:s.length≤4611686018427387904):ah Tryz.prog 120 [.str s,.str [c]] [] (.str (Lib.trimRightB s c)) []:=by
 refine ah.oK ⟨_,Tryz.Tm.f162,by kernel_rfl,by kernel_rfl⟩ fun w vs ok hg hr=>?_
 obtain ⟨u,v,rfl,h,h'⟩:=U4 hr
 cases jS h
 cases jS h'
 refine (Any.strings_TrimRight_one Tryz.Tm ⟨⟨s⟩⟩ c hc w (by rw [Lib.size_eq];simp;omega)).mono ?_
 rintro e w' ⟨h1,rfl⟩
 exact ⟨_,h1,fun w ok=>.str _,.refl _ _⟩
def jZ:dN:=fun args objs K=>match args with
 | [.str s,a1]=>a1=(.str [48])∧K (.str (Lib.trimLeftB s 48)) objs 0
 | _=>False
theorem Mf:aF Tryz.prog 119 (jZ):=by
 intro args objs K h
 unfold jZ at h
 split at h
 · rename_i s a1
   obtain ⟨rfl,hk⟩:=h
   exact ⟨_,_,_,.pure _ rfl (G5 s),hk⟩
 · exact h.elim
def iY (c:UInt8):dN:=fun args objs K=>match args with
 | [.str s,a1]=>a1=(.str [c])∧(c.toNat<128)∧(s.length≤4611686018427387904)∧K (.str (Lib.trimRightB s c)) objs 0
 | _=>False
theorem uo (c:UInt8):aF Tryz.prog 120 (iY c):=by
 intro args objs K h
 unfold iY at h
 split at h
 · rename_i s a1
   obtain ⟨rfl,h1,h2,hk⟩:=h
   exact ⟨_,_,_,.pure _ rfl (Et s c h1 h2),hk⟩
 · exact h.elim
theorem X0:Builder.Extra Tryz.prog Tryz.DK where
 sizeBuilder:=by kernel_rfl
 liesBuilder:=by kernel_rfl
 t5:=Tryz.wW.t5
 a5:=Tryz.wW.a5
 z5:=Tryz.wW.z5
 v5:=Tryz.wW.v5
 infoByte:=by kernel_rfl
 cellsByte:=by kernel_rfl
 sizeByte:=by kernel_rfl
 neB5:=by decide
theorem DW (c:UInt8):∀ n,Lib.repeatL [c] n=List.replicate n c
 | 0=>rfl
 | n+1=>by rw [Lib.repeatL,DW c n,List.replicate_succ];rfl
theorem Ph (c:UInt8) (n:Int) (h:0≤n∧n≤1000000000):ah Tryz.prog 104 [.str [c],.int .i64 n] [] (.str (List.replicate n.toNat c)) []:=by
 obtain ⟨n,rfl⟩:∃ k:Nat,n=k:=⟨n.toNat,by omega⟩
 refine ah.oK ⟨_,Tryz.wW.f105,by kernel_rfl,by kernel_rfl⟩ fun w vs ok hg hr=>?_
 obtain ⟨u,v,rfl,h,h'⟩:=U4 hr
 cases jS h
 cases Oa h'
 refine (Any.strings_Repeat Tryz.wW X0 ⟨⟨[c]⟩⟩ n w (by omega) (by rw [Lib.size_eq];simp;omega)).mono ?_
 rintro e w' ⟨h1,h2⟩
 refine ⟨_,h1,fun w ok=>?_,h2⟩
 have e1:(⟨⟨[c]⟩⟩:ByteArray).data.toList=[c]:=rfl
 rw [e1,DW]
 exact .str _
def mo (c:UInt8):dN:=fun args objs K=>match args with
 | [a0,.int .i64 n]=>a0=(.str [c])∧(0≤n∧n≤1000000000)∧K (.str (List.replicate n.toNat c)) objs 0
 | _=>False
theorem zM (c:UInt8):aF Tryz.prog 104 (mo c):=by
 intro args objs K h
 unfold mo at h
 split at h
 · rename_i a0 n
   obtain ⟨rfl,h1,hk⟩:=h
   exact ⟨_,_,_,.pure _ rfl (Ph c n h1),hk⟩
 · exact h.elim
theorem aO.G6 {P:Program}{D:TypeId→aG}{T:Know}{f:FuncId}{n t u:Nat}{ty:TypeId}{C:LC}{args:List PV}{r:PV}(h:aO P f n [.cell t ty,.tmp u] C) (d:Nat) (hD:∀ t,iL P t (D t)) (hT:FZ P none tC T) (hm:P.follows .mixedOrders=true) (ht:t<n) (hu:u<n)
  (hw:∀ Q:Exit→St→Prop,(∀ l ob,Q .ret ⟨dh n l,ob⟩=eY (D ty) (j4 l t) ob fun p _ _=>r=.bU [gL d 0 ob p,gL d 0 ob (j4 l u)])→kE P D T C Q (bS args n)):ah P f args [] r []:=by
 refine h.pure d hD hT hm (by simp) (hw _ fun l ob=>?_)
 simp only [mE,iW,mZ.2.1 n l t ht,mZ.2.1 n l u hu,List.map_cons,List.map_nil,eT]
def dU (neg:Bool) (f:List UInt8) (e:Int):PV:=.bU [au (dO neg f e).1,.int .i64 (dO neg f e).2]
theorem nk (s:List UInt8) (c:UInt8):(Lib.trimRightB s c).length≤s.length:=by
 unfold Lib.trimRightB
 rw [List.length_reverse]
 exact Nat.le_trans (List.dropWhile_suffix _).length_le (by rw [List.length_reverse];exact Nat.le_refl _)
theorem RL (s:List UInt8) (c:UInt8):(Lib.trimLeftB s c).length≤s.length:=(List.dropWhile_suffix _).length_le
theorem Vw (neg:Bool) (f:List UInt8) (e:Int) (hf:f.length≤1000000) (he:-1000000000≤e∧e≤1000000000):ah Tryz.prog 101 [.bool neg,.str f,.int .i64 e] [] (dU neg f e) []:=by
 refine QA.G6 (T:=aQ Tryz.prog [(118,dA),(119,jZ),(120,iY 48),(121,iI)]) 0 hD (aj (af uR (af Mf (af (uo 48) (af yw ai))))) aV (by decide) (by decide) fun Q hQ=>?_
 have Ze:(48:UInt8).toNat<128:=by decide
 have hf':f.length≤4611686018427387904:=by omega
 have hlL:=RL f 48
 generalize hs:Lib.trimLeftB f 48=s at *
 have hlR:=nk s 48
 generalize ht:Lib.trimRightB s 48=t at *
 cases h1:fM f
 · have hr:dU neg f e=.bU [au ⟨0,0,[],[],false,0⟩,.int .i64 4]:=by simp [dU,dO,h1,aM]
   (conv=>arg 4;cbv);simp(maxSteps:=400000)only[↓aS,aT,BEq.rfl,reduceIte,reduceCtorEq,Nat.reduceLT,reduceAdd,reduceSub,reduceMul,Nat.reduceBEq,reduceLeDiff,reduceToNat,reduceLE,hQ,↓dA,h1,hr,bA,bB]
   repeat' (first | omega | exact Ze | refine ⟨?_,?_⟩)
 by_cases h2:s=[]
 · have hr:dU neg f e=.bU [au ⟨3,0,[],[],false,0⟩,.int .i64 0]:=by simp [dU,dO,h1,hs,h2]
   have h2':(s=[])=True:=eq_true h2
   (conv=>arg 4;cbv);simp(maxSteps:=400000)only[↓aS,aT,BEq.rfl,reduceIte,reduceCtorEq,Nat.reduceLT,reduceAdd,reduceSub,reduceMul,Nat.reduceBEq,reduceLeDiff,reduceToNat,reduceLE,hQ,↓dA,↓jZ,h1,hs,h2',hr,bA,bB]
   repeat' (first | omega | exact Ze | refine ⟨?_,?_⟩)
 have h2':(s=[])=False:=eq_false h2
 rcases tf (e < -100000000) with h3 | h3
 · have hr:dU neg f e=.bU [au ⟨0,0,[],[],false,0⟩,.int .i64 2]:=by simp [dU,dO,h1,hs,h2,of_eq_true h3,aM]
   (conv=>arg 4;cbv);simp(maxSteps:=400000)only[↓aS,aT,BEq.rfl,reduceIte,reduceCtorEq,Nat.reduceLT,reduceAdd,reduceSub,reduceMul,Nat.reduceBEq,reduceLeDiff,reduceToNat,reduceLE,hQ,↓dA,↓jZ,h1,hs,h2',h3,hr,bA,bB]
   repeat' (first | omega | exact Ze | refine ⟨?_,?_⟩)
 rcases tf (100000000<e) with h4 | h4
 · have hr:dU neg f e=.bU [au ⟨0,0,[],[],false,0⟩,.int .i64 2]:=by simp [dU,dO,h1,hs,h2,of_eq_true h4,aM]
   (conv=>arg 4;cbv);simp(maxSteps:=400000)only[↓aS,aT,BEq.rfl,reduceIte,reduceCtorEq,Nat.reduceLT,reduceAdd,reduceSub,reduceMul,Nat.reduceBEq,reduceLeDiff,reduceToNat,reduceLE,hQ,↓dA,↓jZ,h1,hs,h2',h3,h4,hr,bA,bB]
   repeat' (first | omega | exact Ze | refine ⟨?_,?_⟩)
 have h3':=of_eq_false h3
 have h4':=of_eq_false h4
 rcases tf (100<(t.length:Int)) with h5 | h5
 · have hr:dU neg f e=.bU [au ⟨0,0,[],[],false,0⟩,.int .i64 2]:=by
    have:100<t.length:=by have:=of_eq_true h5;omega
    simp [dU,dO,h1,hs,h2,h3',h4',ht,this,aM]
   (conv=>arg 4;cbv);simp(maxSteps:=400000)only[↓aS,aT,BEq.rfl,reduceIte,reduceCtorEq,Nat.reduceLT,reduceAdd,reduceSub,reduceMul,Nat.reduceBEq,reduceLeDiff,reduceToNat,reduceLE,hQ,↓dA,↓jZ,↓iY,h1,hs,ht,h2',h3,h4,h5,hr,bA,bB]
   repeat' (first | omega | exact Ze | refine ⟨?_,?_⟩)
 have h5':¬ 100<t.length:=by have:=of_eq_false h5;omega
 have hpb:MS t.length (e+(s.length-t.length))=Bl t.length (e+(s.length-t.length)):=rfl
 cases h6:Bl t.length (e+(s.length-t.length))
 · have hr:dU neg f e=.bU [au ⟨0,0,[],[],false,0⟩,.int .i64 2]:=by
    simp [dU,dO,h1,hs,h2,h3',h4',ht,hpb,h6,aM]
   (conv=>arg 4;cbv);simp(maxSteps:=400000)only[↓aS,aT,BEq.rfl,reduceIte,reduceCtorEq,Nat.reduceLT,reduceAdd,reduceSub,reduceMul,Nat.reduceBEq,reduceLeDiff,reduceToNat,reduceLE,hQ,↓dA,↓jZ,↓iY,↓iI,h1,hs,ht,h2',h3,h4,h5,h6,hr,bA,bB]
   repeat' (first | omega | exact Ze | refine ⟨?_,?_⟩)
 · have hr:dU neg f e=.bU [au ⟨3,0,[],t,neg,e+(s.length-t.length)⟩,.int .i64 0]:=by
    simp [dU,dO,h1,hs,h2,h3',h4',ht,hpb,h6,h5']
   (conv=>arg 4;cbv);simp(maxSteps:=400000)only[↓aS,aT,BEq.rfl,reduceIte,reduceCtorEq,Nat.reduceLT,reduceAdd,reduceSub,reduceMul,Nat.reduceBEq,reduceLeDiff,reduceToNat,reduceLE,hQ,↓dA,↓jZ,↓iY,↓iI,h1,hs,ht,h2',h3,h4,h5,h6,hr,bA,bB]
   repeat' (first | omega | exact Ze | refine ⟨?_,?_⟩)
theorem Vx (neg:Bool) (f:List UInt8) (e:Int):(dO neg f e).1.s.length≤100:=by
 unfold dO
 split
 · simp [aM]
 split
 · simp
 split
 · simp [aM]
 split
 · simp [aM]
 · rename_i h
   have:=fun h'=>h (.inl h')
   simpa using this
def uq:dN:=fun args objs K=>match args with
 | [.bool neg,.str f,.int .i64 e]=>(f.length≤1000000)∧(-1000000000≤e∧e≤1000000000)∧K (dU neg f e) objs 0
 | _=>False
theorem RN:aF Tryz.prog 101 (uq):=by
 intro args objs K h
 unfold uq at h
 split at h
 · rename_i neg f e
   obtain ⟨h1,h2,hk⟩:=h
   exact ⟨_,_,_,.pure _ rfl (Vw neg f e h1 h2),hk⟩
 · exact h.elim
end Lp
namespace Lp
open Go Go.Proofs Go.RowKit
theorem J5 (c:UInt8) (h:c.toNat<128):(Utf8.encode (c.toNat:Int)).data.toList=[c]:=by
 have hv:Utf8.valid (c.toNat:Int)=true:=by
  simp only [Utf8.valid,Bool.or_eq_true,Bool.and_eq_true,decide_eq_true_eq]
  exact .inl ⟨by omega,by omega⟩
 simp only [Utf8.encode,hv,if_true,Int.toNat_natCast,if_pos h]
 show [UInt8.ofNat c.toNat]=[c]
 simp
theorem zN {s:List UInt8}{c:UInt8}(h:0<(Lib.trimRightB s c).length):∃ d,s[(Lib.trimRightB s c).length-1]?=some d∧d≠c:=by
 have acr:(s.reverse.dropWhile (·==c))≠[]:=by
  intro hh;simp [Lib.trimRightB,hh] at h
 obtain ⟨d,r,hr⟩:=List.exists_cons_of_ne_nil acr
 have hd:d≠c:=by
  have:=List.head_dropWhile_not (·==c) (l:=s.reverse) acr
  simp only [hr,List.head_cons] at this
  simpa using this
 have hpre:Lib.trimRightB s c <+:s:=by
  unfold Lib.trimRightB
  have:=List.dropWhile_suffix (l:=s.reverse) (·==c)
  rwa [← List.reverse_prefix,List.reverse_reverse] at this
 have ht:Lib.trimRightB s c=r.reverse++[d]:=by simp [Lib.trimRightB,hr]
 rw [ht] at hpre ⊢
 obtain ⟨q,hq⟩:=hpre
 refine ⟨d,?_,hd⟩
 rw [← hq,List.getElem?_append_left (by simp)]
 simp
theorem wrap32 {c:UInt8}:IntKind.i32.wrap (c.toNat:Int)=(c.toNat:Int):=by
 have h:=c.toNat_lt
 have hm:(c.toNat:Int) % 4294967296=c.toNat:=by omega
 unfold IntKind.wrap
 simp [IntKind.bits,IntKind.signed,hm]
 omega
theorem Zf (s:List UInt8) (hf:fM s=true) (hs:s.length≤1000000):ah Tryz.prog 102 [.str s] [] (.str (MU s)) []:=by
 refine UJ.bg (T:=aQ Tryz.prog [(120,(iY 57)),(104,(mo 48))]) 0 hD (aj (af (uo 57) (af (zM 48) ai))) aV (by decide) fun Q hQ=>?_
 have hle:=nk s 57
 have c57:(57:UInt8).toNat<128:=by decide
 by_cases h0:(Lib.trimRightB s 57).length=0
 · have h0':(((Lib.trimRightB s 57).length:Int)=0)=True:=eq_true (by omega)
   have hr:MU s=49::List.replicate s.length 48:=by simp [MU,h0]
   (conv=>arg 4;cbv);simp(maxSteps:=400000)only[↓aS,aT,BEq.rfl,reduceIte,reduceCtorEq,Nat.reduceLT,Nat.reduceAdd,Nat.reduceSub,Nat.reduceMul,Nat.reduceBEq,Nat.reduceLeDiff,Int.reduceToNat,Int.reduceLE,hQ,↓iY,↓mo,h0',hr]
   have e:((s.length:Int)-((Lib.trimRightB s 57).length:Int)).toNat=s.length:=by omega
   rw [e]
   exact ⟨c57,by omega,by omega,by omega,by omega,rfl⟩
 · have h0':(((Lib.trimRightB s 57).length:Int)=0)=False:=eq_false (by omega)
   obtain ⟨d,hd,hne⟩:=zN (s:=s) (c:=57) (by omega)
   have hdf:=pX hf hd
   have hr:MU s=s.take ((Lib.trimRightB s 57).length-1)++(d+1)::List.replicate (s.length-(Lib.trimRightB s 57).length) 48:=by simp [MU,h0,List.getD_eq_getElem?_getD,hd]
   generalize hn:(Lib.trimRightB s 57).length=n at *
   have e1:((n:Int)-1).toNat=n-1:=by omega
   have e2:((s.length:Int)-(n:Int)).toNat=s.length-n:=by omega
   have ads:d.toNat≤56:=by
    have:d.toNat≠57:=fun h=>hne (UInt8.toNat_inj.1 h)
    omega
   have e3:((d+1).toNat:Int)=(d.toNat:Int)+1:=by
    rw [UInt8.toNat_add]
    have:(1:UInt8).toNat=1:=rfl
    omega
   have e4:IntKind.i32.wrap ((d.toNat:Int)+1)=((d+1).toNat:Int):=by rw [← e3];exact wrap32
   have e5:=J5 (d+1) (by omega)
   (conv=>arg 4;cbv);simp(maxSteps:=400000)only[↓aS,aT,BEq.rfl,reduceIte,reduceCtorEq,Nat.reduceLT,Nat.reduceAdd,Nat.reduceSub,Nat.reduceMul,Nat.reduceBEq,Nat.reduceLeDiff,Int.reduceToNat,Int.reduceLE,hQ,↓iY,↓mo,hn,h0',hr,e1,e2,hd,jN,mI,e4,e5,List.drop_zero,List.length_take,List.append_assoc,List.cons_append,List.nil_append]
   repeat' (first | omega | exact c57 | exact trivial | refine ⟨?_,?_⟩)
def TB:dN:=fun args objs K=>match args with
 | [.str s]=>(fM s=true)∧(s.length≤1000000)∧K (.str (MU s)) objs 0
 | _=>False
theorem X3:aF Tryz.prog 102 (TB):=by
 intro args objs K h
 unfold TB at h
 split at h
 · rename_i s
   obtain ⟨h1,h2,hk⟩:=h
   exact ⟨_,_,_,.pure _ rfl (Zf s h1 h2),hk⟩
 · exact h.elim
theorem Vy (s:List UInt8) (hf:fM s=true) (h0:0<(Lib.trimRightB s 48).length) (hs:s.length≤1000000):ah Tryz.prog 103 [.str s] [] (.str (nJ s)) []:=by
 refine NH.bg (T:=aQ Tryz.prog [(120,(iY 48)),(104,(mo 57))]) 0 hD (aj (af (uo 48) (af (zM 57) ai))) aV (by decide) fun Q hQ=>?_
 have hle:=nk s 48
 have Ze:(48:UInt8).toNat<128:=by decide
 obtain ⟨d,hd,hne⟩:=zN (s:=s) (c:=48) h0
 have hdf:=pX hf hd
 have hr:nJ s=s.take ((Lib.trimRightB s 48).length-1)++(d-1)::List.replicate (s.length-(Lib.trimRightB s 48).length) 57:=by simp [nJ,List.getD_eq_getElem?_getD,hd]
 generalize hn:(Lib.trimRightB s 48).length=n at *
 have e1:((n:Int)-1).toNat=n-1:=by omega
 have e2:((s.length:Int)-(n:Int)).toNat=s.length-n:=by omega
 have adt:49≤d.toNat:=by
  have:d.toNat≠48:=fun h=>hne (UInt8.toNat_inj.1 h)
  omega
 have e3:((d-1).toNat:Int)=(d.toNat:Int)-1:=by
  rw [UInt8.toNat_sub_of_le _ _ (by rw [UInt8.le_iff_toNat_le];have:(1:UInt8).toNat=1:=rfl;omega)]
  have:(1:UInt8).toNat=1:=rfl
  omega
 have e4:IntKind.i32.wrap ((d.toNat:Int)-1)=((d-1).toNat:Int):=by rw [← e3];exact wrap32
 have e5:=J5 (d-1) (by omega)
 (conv=>arg 4;cbv);simp(maxSteps:=400000)only[↓aS,aT,BEq.rfl,reduceIte,reduceCtorEq,Nat.reduceLT,Nat.reduceAdd,Nat.reduceSub,Nat.reduceMul,Nat.reduceBEq,Nat.reduceLeDiff,Int.reduceToNat,Int.reduceLE,hQ,↓iY,↓mo,hn,hr,e1,e2,hd,jN,mI,e4,e5,List.drop_zero,List.length_take,List.append_assoc,List.cons_append,List.nil_append]
 repeat' (first | omega | exact Ze | exact trivial | refine ⟨?_,?_⟩)
def BA:dN:=fun args objs K=>match args with
 | [.str s]=>(fM s=true)∧(0<(Lib.trimRightB s 48).length)∧(s.length≤1000000)∧K (.str (nJ s)) objs 0
 | _=>False
theorem RO:aF Tryz.prog 103 (BA):=by
 intro args objs K h
 unfold BA at h
 split at h
 · rename_i s
   obtain ⟨h1,h2,h3,hk⟩:=h
   exact ⟨_,_,_,.pure _ rfl (Vy s h1 h2 h3),hk⟩
 · exact h.elim
end Lp
namespace Lp
open Go Go.Proofs Go.RowKit
open List (length_append length_replicate)
open Nat (reduceAdd reduceLeDiff reduceMul reduceSub)
structure Mg (n:Nd):Prop where
 len:n.s.length≤100
 fM:fM n.s=true
 lo:-1000≤n.e
 hi:n.e≤1000
 last:n.s≠[]→0<(Lib.trimRightB n.s 48).length
def dM (n:Nd) (above:Bool):PV:=.bU [au (dm n above).1,.bool (dm n above).2]
theorem DX (a b:List UInt8) (ha:fM a=true) (hb:fM b=true):fM (a++b)=true:=by
 unfold fM at *
 simp only [List.all_append,ha,hb,Bool.and_self]
theorem Pj (n:Nat):fM (List.replicate n 48)=true:=by
 unfold fM
 rw [List.all_eq_true]
 intro x hx
 rw [(List.mem_replicate.1 hx).2]
 decide
theorem J6 (s:List UInt8) (n:Nat):Lib.trimRightB (s++List.replicate n 48) 48=Lib.trimRightB s 48:=by
 have:∀ (k:Nat) (l:List UInt8),List.dropWhile (·==(48:UInt8)) (List.replicate k 48++l)=List.dropWhile (·==(48:UInt8)) l:=by
  intro k l
  induction k with
  | zero=>rfl
  | succ k ih=>rw [List.replicate_succ,List.cons_append,List.dropWhile_cons];simp [ih]
 unfold Lib.trimRightB
 rw [List.reverse_append,List.reverse_replicate,this]
theorem Zg (s:List UInt8):(MU s).length≤s.length+1:=by
 unfold MU
 have:=nk s 57
 split
 · simp
 · simp only [length_append,List.length_take,List.length_cons,length_replicate];omega
theorem J7 (s:List UInt8):(nJ s).length≤s.length+1:=by
 unfold nJ
 have:=nk s 48
 simp only [length_append,List.length_take,List.length_cons,length_replicate];omega
theorem Zh (above:Bool):dU (!above) [49] (-1000)=.bU [au ⟨3,0,[],[49],!above,-1000⟩,.int .i64 0]:=by
 cases above <;> rfl
theorem Pk (n:Nd) (above:Bool) (hn:Mg n):ah Tryz.prog 75 [au n,.bool above] [] (dM n above) []:=by
 refine Iq.G6 (T:=aQ Tryz.prog [(101,uq),(104,mo 48),(102,TB),(103,BA)]) 0 hD (aj (af RN (af (zM 48) (af X3 (af RO ai))))) aV (by decide) (by decide) fun Q hQ=>?_
 by_cases hs:n.s=[]
 · have hr:dM n above=.bU [au ⟨3,0,[],[49],!above,-1000⟩,.bool true]:=by simp [dM,dm,hs]
   have b0:=Zh above
   (conv=>arg 4;cbv);simp(maxSteps:=400000)only[↓aS,aT,BEq.rfl,reduceIte,reduceCtorEq,Nat.reduceLT,reduceAdd,reduceSub,reduceMul,Nat.reduceBEq,reduceLeDiff,Int.reduceToNat,Int.reduceLE,hQ,↓uq,b0,hs,hr,bA,bB,bN]
 have hs':(n.s=[])=False:=eq_false hs
 have l1:=hn.len
 have l2:=hn.lo
 have l3:=hn.hi
 have hE:∀ T:Int,jA n above=max (T-100) (-1000)→(if (-1000:Int) > T-100 then (-1000:Int) else T-100)=jA n above:=fun T h=>by rw [h];split <;> omega
 have l4:(0:Int)<n.s.length:=by
  cases h:n.s with
  | nil=>exact absurd h hs
  | cons x r=>simp
 have hEb:-1000≤jA n above∧jA n above≤1000∧jA n above≤n.e:=by
  unfold jA
  split <;> omega
 generalize SX:jA n above=E at *
 have Eu:lK n E=n.s++List.replicate (n.e-E).toNat 48:=rfl
 have hpl:(lK n E).length≤3000:=by rw [Eu,length_append,length_replicate];omega
 have hpf:fM (lK n E)=true:=DX _ _ hn.fM (Pj _)
 have hpt:0<(Lib.trimRightB (lK n E) 48).length:=by rw [Eu,J6];exact hn.last hs
 have hul:=Zg (lK n E)
 have hdl:=J7 (lK n E)
 have hpl':n.s.length+(n.e-E).toNat≤3000:=by have:=hpl;rw [Eu,length_append,length_replicate] at this;exact this
 have hpp:(lK n E).length=n.s.length+(n.e-E).toNat:=by rw [Eu,length_append,length_replicate]
 by_cases hg:n.neg=above
 · have hg':(n.neg=above)=True:=eq_true hg
   have hr:dM n above=.bU [au (dO n.neg (nJ (lK n E)) E).1,.bool (decide ((dO n.neg (nJ (lK n E)) E).2=0))]:=by
    simp only [dM,dm,if_neg hs,if_pos hg,SX]
   by_cases h49:n.s=[49]
   · have Mh:(n.s=[49])=True:=eq_true h49
     have hEe:=hE (n.s.length+n.e-1) (by rw [← SX];unfold jA;rw [if_pos ⟨hg,h49⟩])
     (conv=>arg 4;cbv);simp(maxSteps:=400000)only[↓aS,aT,BEq.rfl,reduceIte,reduceCtorEq,Nat.reduceLT,reduceAdd,reduceSub,reduceMul,Nat.reduceBEq,reduceLeDiff,Int.reduceToNat,Int.reduceLE,hQ,↓uq,↓mo,↓BA,hs',hg',Mh,bA,bB,bN,hEe,← Eu,hr,dU]
     repeat' (first | omega | exact hpf | exact hpt | exact (by decide) | refine ⟨?_,?_⟩)
   · have Mh:(n.s=[49])=False:=eq_false h49
     have hEe:=hE (n.s.length+n.e) (by rw [← SX];unfold jA;rw [if_neg fun h=>h49 h.2])
     (conv=>arg 4;cbv);simp(maxSteps:=400000)only[↓aS,aT,BEq.rfl,reduceIte,reduceCtorEq,Nat.reduceLT,reduceAdd,reduceSub,reduceMul,Nat.reduceBEq,reduceLeDiff,Int.reduceToNat,Int.reduceLE,hQ,↓uq,↓mo,↓BA,hs',hg',Mh,bA,bB,bN,hEe,← Eu,hr,dU]
     repeat' (first | omega | exact hpf | exact hpt | exact (by decide) | refine ⟨?_,?_⟩)
 · have hg':(n.neg=above)=False:=eq_false hg
   have hr:dM n above=.bU [au (dO n.neg (MU (lK n E)) E).1,.bool (decide ((dO n.neg (MU (lK n E)) E).2=0))]:=by
    simp only [dM,dm,if_neg hs,if_neg hg,SX]
   have hEe:=hE (n.s.length+n.e) (by rw [← SX];unfold jA;rw [if_neg fun h=>hg h.1])
   (conv=>arg 4;cbv);simp(maxSteps:=400000)only[↓aS,aT,BEq.rfl,reduceIte,reduceCtorEq,Nat.reduceLT,reduceAdd,reduceSub,reduceMul,Nat.reduceBEq,reduceLeDiff,Int.reduceToNat,Int.reduceLE,hQ,↓uq,↓mo,↓TB,hs',hg',bA,bB,bN,hEe,← Eu,hr,dU]
   repeat' (first | omega | exact hpf | exact hpt | exact (by decide) | refine ⟨?_,?_⟩)
def nu:dN:=fun args objs K=>match args with
 | [a0,.bool above]=>gZ au a0 (HK.mk:HK fun n=>(Mg n)∧K (dM n above) objs 0)
 | _=>False
theorem Mi:aF Tryz.prog 75 (nu):=by
 intro args objs K h
 unfold nu at h
 split at h
 · rename_i a0 above
   obtain ⟨n,rfl,h1,hk⟩:=h
   exact ⟨_,_,_,.pure _ rfl (Pk n above h1),hk⟩
 · exact h.elim
end Lp
namespace Lp
open Go Go.Proofs Go.RowKit
open List (length_cons map_nil)
open Nat (reduceAdd reduceLeDiff reduceMul reduceSub)
open Int (reduceLE reduceToNat)
theorem RP (s:List UInt8):Lib.trimLeftB (48::s) 48=Lib.trimLeftB s 48:=rfl
theorem RQ {c:UInt8}{s:List UInt8}(h:c≠48):Lib.trimLeftB (c::s) 48=c::s:=by
 unfold Lib.trimLeftB
 have:(c==(48:UInt8))=false:=by simpa using h
 simp [this]
theorem RS (s:List UInt8):Lib.trimRightB (s++[48]) 48=Lib.trimRightB s 48:=by
 unfold Lib.trimRightB
 rw [List.reverse_append];rfl
theorem RU {c:UInt8}{s:List UInt8}(h:c≠48):Lib.trimRightB (s++[c]) 48=s++[c]:=by
 unfold Lib.trimRightB
 have:(c==(48:UInt8))=false:=by simpa using h
 rw [List.reverse_append]
 simp [this]
theorem RV {c:UInt8}{s:List UInt8}(h:c≠48):Lib.trimRightB (c::s) 48≠[]:=by
 unfold Lib.trimRightB
 have hc:(c==(48:UInt8))=false:=by simpa using h
 rw [List.reverse_cons,List.dropWhile_append]
 split
 · simp [hc]
 · simp
def uS (t:List UInt8) (e:Int):Bool:=decide (100<t.length) || decide (e < -1000) || decide (1000<(t.length:Int)+e)
theorem RX {neg:Bool}{f s t:List UInt8}{e e':Int}(h1:fM f=true) (h2:Lib.trimLeftB f 48=s) (h3:s≠[]) (h4:¬ (e < -100000000∨100000000<e)) (h5:Lib.trimRightB s 48=t) (h6:e'+t.length=e+s.length) :
  dO neg f e=if uS t e' then (aM,2) else (⟨3,0,[],t,neg,e'⟩,0):=by
 have h4a:¬ e < -100000000:=fun h=>h4 (.inl h)
 have h4b:¬ 100000000<e:=fun h=>h4 (.inr h)
 have he:e+((s.length:Int)-(t.length:Int))=e':=by omega
 unfold dO
 rw [if_neg (by simp [h1]),h2,if_neg h3,if_neg h4,h5,he]
 by_cases hb:uS t e'=true
 · rw [if_pos hb,if_pos]
   simp only [uS,Bool.or_eq_true,decide_eq_true_eq] at hb
   rcases hb with (hb | hb) | hb
   · exact .inl hb
   · right;simp [MS];omega
   · right;simp [MS];omega
 · rw [if_neg hb,if_neg]
   simp only [uS,Bool.or_eq_true,decide_eq_true_eq,not_or] at hb
   rintro (h | h)
   · exact hb.1.1 h
   · simp only [MS,Bool.and_eq_false_iff,decide_eq_false_iff_not] at h;omega
theorem Mj (neg:Bool) (f:List UInt8) (e:Int) (hf:f.length≤1000000) (he:-1000000000≤e∧e≤1000000000):ah Tryz.prog 114 [.bool neg,.str f,.int .i64 e] [] (dU neg f e) []:=by
 refine Bw.G6 (T:=aQ Tryz.prog [(88,oI)]) 0 hD (aj (af Gb ai)) aV (by decide) (by decide) fun Q hQ=>?_
 cases h1:fM f
 · have hr:dU neg f e=.bU [au ⟨0,0,[],[],false,0⟩,.int .i64 4]:=by simp [dU,dO,h1,aM]
   (conv=>arg 4;cbv);simp(maxSteps:=400000)only[↓aS,aT,BEq.rfl,reduceIte,reduceCtorEq,Nat.reduceLT,reduceAdd,reduceSub,reduceMul,Nat.reduceBEq,reduceLeDiff,reduceToNat,reduceLE,hQ,↓oI,h1,hr,bA,bB]
   repeat' (first | omega | exact rfl | refine ⟨?_,?_⟩)
 (conv=>arg 4;cbv);simp(maxSteps:=400000)only[↓aS,aT,BEq.rfl,reduceIte,reduceCtorEq,Nat.reduceLT,reduceAdd,reduceSub,reduceMul,Nat.reduceBEq,reduceLeDiff,reduceToNat,reduceLE,hQ,↓oI,h1,bA,bB]
 refine ⟨by omega,?_⟩
 refine aA (fun m S=>∃ s:List UInt8,s.length=m∧m≤f.length∧Lib.trimLeftB f 48=Lib.trimLeftB s 48∧S=⟨dh 64 [(0,.bool neg),(1,.str s),(2,.int .i64 e),(6,.bM 0 1 0 0)],[⟨42,6,[au ⟨0,0,[],[],false,0⟩],true,1⟩]⟩) f.length ⟨f,rfl,Nat.le_refl _,rfl,?_⟩ ?_
 · simp only [bJ,keepR,reduceAdd,kU,Nat.reduceBEq,map_nil]
 rintro m S ⟨s,hsl,hmf,htl,rfl⟩
 cases s with
 | nil=>
  have z0:((0:Int)<(([]:List UInt8).length:Int))=False:=eq_false (by simp)
  have hr:dU neg f e=.bU [au ⟨3,0,[],[],false,0⟩,.int .i64 0]:=by
   have:Lib.trimLeftB f 48=[]:=by rw [htl];rfl
   simp [dU,dO,h1,this]
  have he0:(([]:List UInt8)=[])=True:=eq_true rfl
  simp(maxSteps:=400000)only[↓aS,aT,BEq.rfl,reduceIte,reduceCtorEq,Nat.reduceLT,reduceAdd,reduceSub,reduceMul,Nat.reduceBEq,reduceLeDiff,reduceToNat,reduceLE,hQ,z0,he0,hr,bA,bB,List.length_nil]
  repeat' (first | omega | exact rfl | refine ⟨?_,?_⟩)
 | cons c s=>
  simp only [length_cons] at hsl
  have zl:((0:Int)<((c::s).length:Int))=True:=eq_true (by simp only [length_cons];omega)
  have hg0:(c::s)[0]?=some c:=rfl
  have hdr:(c::s).drop 1=s:=rfl
  have b48:(c.toNat:Int)=48↔c=48:=lM (k:=48) (by omega)
  by_cases hc:(c.toNat:Int)=48
  · have hcc:=b48.1 hc
    subst hcc
    rw [RP] at htl
    have hwl:((48:UInt8)::s).length=m:=by simp only [length_cons];omega
    generalize hw:(48:UInt8)::s=w at *
    simp(maxSteps:=400000)only[↓aS,aT,BEq.rfl,reduceIte,reduceCtorEq,Nat.reduceLT,reduceAdd,reduceSub,reduceMul,Nat.reduceBEq,reduceLeDiff,reduceToNat,reduceLE,hQ,zl,hg0,hc,List.take_length,hdr]
    repeat' (first | omega | exact ⟨m-1,by omega,s,by omega,by omega,htl,rfl⟩ | exact rfl | refine ⟨?_,?_⟩)
  have hc':=eq_false hc
  have hcn:c≠48:=fun h=>hc (b48.2 h)
  rw [RQ hcn] at htl
  have hne:(c::s=[])=False:=eq_false (by simp)
  have hth:=RV (s:=s) hcn
  have hwl:(c::s).length=m:=by simp only [length_cons];omega
  generalize hw:c::s=w at *
  have hwne:w≠[]:=fun h=>hne.mp h
  rcases tf (e < -100000000) with h3 | h3
  · have hr:dU neg f e=.bU [au ⟨0,0,[],[],false,0⟩,.int .i64 2]:=by simp [dU,dO,h1,htl,hwne,of_eq_true h3,aM]
    simp(maxSteps:=400000)only[↓aS,aT,BEq.rfl,reduceIte,reduceCtorEq,Nat.reduceLT,reduceAdd,reduceSub,reduceMul,Nat.reduceBEq,reduceLeDiff,reduceToNat,reduceLE,hQ,zl,hg0,hc',hne,h3,hr,bA,bB]
    repeat' (first | omega | exact rfl | refine ⟨?_,?_⟩)
  rcases tf (100000000<e) with h4 | h4
  · have hr:dU neg f e=.bU [au ⟨0,0,[],[],false,0⟩,.int .i64 2]:=by simp [dU,dO,h1,htl,hwne,of_eq_true h4,aM]
    simp(maxSteps:=400000)only[↓aS,aT,BEq.rfl,reduceIte,reduceCtorEq,Nat.reduceLT,reduceAdd,reduceSub,reduceMul,Nat.reduceBEq,reduceLeDiff,reduceToNat,reduceLE,hQ,zl,hg0,hc',hne,h3,h4,hr,bA,bB]
    repeat' (first | omega | exact rfl | refine ⟨?_,?_⟩)
  have h3':=of_eq_false h3
  have h4':=of_eq_false h4
  have hrg:¬ (e < -100000000∨100000000<e):=by omega
  simp(maxSteps:=400000)only[↓aS,aT,BEq.rfl,reduceIte,reduceCtorEq,Nat.reduceLT,reduceAdd,reduceSub,reduceMul,Nat.reduceBEq,reduceLeDiff,reduceToNat,reduceLE,hQ,zl,hg0,hc',hne,h3,h4]
  refine aA (fun m' S=>∃ (u:List UInt8) (e':Int),u.length=m'∧m'≤m∧Lib.trimRightB w 48=Lib.trimRightB u 48∧e'+u.length=e+w.length∧S=⟨dh 64 [(0,.bool neg),(1,.str u),(2,.int .i64 e'),(6,.bM 0 1 0 0)],[⟨42,6,[au ⟨0,0,[],[],false,0⟩],true,1⟩]⟩) m ⟨w,e,hwl,Nat.le_refl _,rfl,rfl,?_⟩ ?_
  · simp only [bJ,keepR,reduceAdd,kU,Nat.reduceBEq,map_nil]
  rintro m' S ⟨u,e',hul,hum,htr,hee,rfl⟩
  have hun:u≠[]:=fun h=>by rw [htr,h] at hth;exact hth rfl
  have hup:0<u.length:=List.length_pos_iff.2 hun
  have hlt:u.length-1<u.length:=by omega
  have hgl:=List.getElem?_eq_getElem hlt
  have hsplit:u=u.take (u.length-1)++[u[u.length-1]]:=by
   conv=>lhs;rw [← List.take_append_drop (u.length-1) u]
   rw [List.drop_eq_getElem_cons hlt,List.drop_eq_nil_of_le (by omega)]
  generalize u[u.length-1]=d at hgl hsplit
  have tl:((u.length:Int)-1).toNat=u.length-1:=by omega
  have zl1:(0≤(u.length:Int)-1)=True:=eq_true (by omega)
  have ll1:((u.length:Int)-1<(u.length:Int))=True:=eq_true (by omega)
  have i1:(-9223372036854775808≤(u.length:Int)-1∧(u.length:Int)-1≤9223372036854775807)=True:=eq_true ⟨by omega,by omega⟩
  have d48:(d.toNat:Int)=48↔d=48:=lM (k:=48) (by omega)
  by_cases hd:(d.toNat:Int)=48
  · have hdd:=d48.1 hd
    have ade:Lib.trimRightB w 48=Lib.trimRightB (u.take (u.length-1)) 48:=by
     have hs2:u=u.take (u.length-1)++[48]:=by rw [← hdd];exact hsplit
     rw [htr]
     conv=>lhs;rw [hs2]
     exact RS _
    have adu:(u.take (u.length-1)).length=u.length-1:=by rw [List.length_take];omega
    simp(maxSteps:=400000)only[↓aS,aT,BEq.rfl,reduceIte,reduceCtorEq,Nat.reduceLT,reduceAdd,reduceSub,reduceMul,Nat.reduceBEq,reduceLeDiff,reduceToNat,reduceLE,hQ,tl,zl1,ll1,i1,hgl,hd]
    repeat' (first | omega | exact ⟨m'-1,by omega,u.take (u.length-1),e'+1,by omega,by omega,ade,by omega,rfl⟩ | exact rfl | refine ⟨?_,?_⟩)
  have hd':=eq_false hd
  have htu:Lib.trimRightB w 48=u:=by rw [htr,hsplit];exact RU fun h=>hd (d48.2 h)
  have hmk:=RX (neg:=neg) h1 htl hwne hrg htu hee
  rcases tf (100<(u.length:Int)) with g1 | g1
  · have hr:dU neg f e=.bU [au ⟨0,0,[],[],false,0⟩,.int .i64 2]:=by
     have:uS u e'=true:=by have:=of_eq_true g1;simp [uS];omega
     rw [dU,hmk,this];rfl
    simp(maxSteps:=400000)only[↓aS,aT,BEq.rfl,reduceIte,reduceCtorEq,Nat.reduceLT,reduceAdd,reduceSub,reduceMul,Nat.reduceBEq,reduceLeDiff,reduceToNat,reduceLE,hQ,tl,zl1,ll1,i1,hgl,hd',g1,hr,bA,bB]
    repeat' (first | omega | exact rfl | refine ⟨?_,?_⟩)
  rcases tf (e' < -1000) with g2 | g2
  · have hr:dU neg f e=.bU [au ⟨0,0,[],[],false,0⟩,.int .i64 2]:=by
     have:uS u e'=true:=by have:=of_eq_true g2;simp [uS];omega
     rw [dU,hmk,this];rfl
    simp(maxSteps:=400000)only[↓aS,aT,BEq.rfl,reduceIte,reduceCtorEq,Nat.reduceLT,reduceAdd,reduceSub,reduceMul,Nat.reduceBEq,reduceLeDiff,reduceToNat,reduceLE,hQ,tl,zl1,ll1,i1,hgl,hd',g1,g2,hr,bA,bB]
    repeat' (first | omega | exact rfl | refine ⟨?_,?_⟩)
  rcases tf (1000<(u.length:Int)+e') with g3 | g3
  · have hr:dU neg f e=.bU [au ⟨0,0,[],[],false,0⟩,.int .i64 2]:=by
     have:uS u e'=true:=by have:=of_eq_true g3;simp [uS];omega
     rw [dU,hmk,this];rfl
    simp(maxSteps:=400000)only[↓aS,aT,BEq.rfl,reduceIte,reduceCtorEq,Nat.reduceLT,reduceAdd,reduceSub,reduceMul,Nat.reduceBEq,reduceLeDiff,reduceToNat,reduceLE,hQ,tl,zl1,ll1,i1,hgl,hd',g1,g2,g3,hr,bA,bB]
    repeat' (first | omega | exact rfl | refine ⟨?_,?_⟩)
  · have hr:dU neg f e=.bU [au ⟨3,0,[],u,neg,e'⟩,.int .i64 0]:=by
     have:uS u e'=false:=by
      have g1':=of_eq_false g1
      have g2':=of_eq_false g2
      have g3':=of_eq_false g3
      simp only [uS,Bool.or_eq_false_iff,decide_eq_false_iff_not];omega
     rw [dU,hmk,this];rfl
    simp(maxSteps:=400000)only[↓aS,aT,BEq.rfl,reduceIte,reduceCtorEq,Nat.reduceLT,reduceAdd,reduceSub,reduceMul,Nat.reduceBEq,reduceLeDiff,reduceToNat,reduceLE,hQ,tl,zl1,ll1,i1,hgl,hd',g1,g2,g3,hr,bA,bB]
    repeat' (first | omega | exact rfl | refine ⟨?_,?_⟩)
def mq:dN:=fun args objs K=>match args with
 | [.bool neg,.str f,.int .i64 e]=>(f.length≤1000000)∧(-1000000000≤e∧e≤1000000000)∧K (dU neg f e) objs 0
 | _=>False
theorem Pm:aF Tryz.prog 114 (mq):=by
 intro args objs K h
 unfold mq at h
 split at h
 · rename_i neg f e
   obtain ⟨h1,h2,hk⟩:=h
   exact ⟨_,_,_,.pure _ rfl (Mj neg f e h1 h2),hk⟩
 · exact h.elim
theorem Pn (n:Nd) (e:Int) (h1:-2000≤e∧e≤n.e∧n.e≤2000) (h2:n.s.length≤100000):ah Tryz.prog 111 [au n,.int .i64 e] [] (.str (lK n e)) []:=by
 refine xU.bg (T:=aQ Tryz.prog []) 0 hD (aj ai) aV (by decide) fun Q hQ=>?_
 (conv=>arg 4;cbv);simp(maxSteps:=400000)only[↓aS,aT,BEq.rfl,reduceIte,reduceCtorEq,Nat.reduceLT,reduceAdd,reduceSub,reduceMul,Nat.reduceBEq,reduceLeDiff,reduceToNat,reduceLE,hQ]
 refine aA (fun m S=>∃ k:Nat,(k:Int)+m=n.e-e∧S=⟨dh 19 [(2,.bM 0 1 0 0),(5,.str (n.s++List.replicate k 48)),(6,.int .i64 (e+k))],[⟨42,6,[au n],true,1⟩]⟩) (n.e-e).toNat ⟨0,by omega,?_⟩ ?_
 · simp only [bJ,keepR,reduceAdd,kU,Nat.reduceBEq,map_nil]
   simp
 rintro m S ⟨k,hkm,rfl⟩
 have hl:(n.s++List.replicate k 48).length=n.s.length+k:=by rw [List.length_append,List.length_replicate]
 rcases Nat.eq_zero_or_pos m with h0 | h0
 · have hlt:(e+(k:Int)<n.e)=False:=eq_false (by omega)
   have hr:lK n e=n.s++List.replicate k 48:=by unfold lK;congr 2;omega
   simp(maxSteps:=400000)only[↓aS,aT,BEq.rfl,reduceIte,reduceCtorEq,Nat.reduceLT,reduceAdd,reduceSub,reduceMul,Nat.reduceBEq,reduceLeDiff,reduceToNat,reduceLE,hQ,hlt,hr]
 · have hlt:(e+(k:Int)<n.e)=True:=eq_true (by omega)
   have hs:n.s++List.replicate k 48++[48]=n.s++List.replicate (k+1) 48:=by rw [List.append_assoc,List.replicate_succ']
   simp(maxSteps:=400000)only[↓aS,aT,BEq.rfl,reduceIte,reduceCtorEq,Nat.reduceLT,reduceAdd,reduceSub,reduceMul,Nat.reduceBEq,reduceLeDiff,reduceToNat,reduceLE,hQ,hlt]
   repeat' (first | omega | exact ⟨m-1,by omega,k+1,by omega,by rw [hs,Int.natCast_add,Int.natCast_one,Int.add_assoc]⟩ | exact rfl | refine ⟨?_,?_⟩)
def j3:dN:=fun args objs K=>match args with
 | [a0,.int .i64 e]=>gZ au a0 (HK.mk:HK fun n=>(-2000≤e∧e≤n.e∧n.e≤2000)∧(n.s.length≤100000)∧K (.str (lK n e)) objs 0)
 | _=>False
theorem Ml:aF Tryz.prog 111 (j3):=by
 intro args objs K h
 unfold j3 at h
 split at h
 · rename_i a0 e
   obtain ⟨n,rfl,h1,h2,hk⟩:=h
   exact ⟨_,_,_,.pure _ rfl (Pn n e h1 h2),hk⟩
 · exact h.elim
end Lp
namespace Lp
open Go Go.Proofs Go.Sort Go.RowKit
open List (length_cons length_take)
def iOf:Value→Int
 | .int _ q=>q
 | _=>0
def kD (b:UInt8):Value:=.int .u8 (b.toNat:Int)
set_option maxRecDepth 1000000 in
set_option maxHeartbeats 4000000 in
theorem Vz (s:List UInt8) (hlen:s.length≤1000000) (w:World) (cap:Nat) (W1:World) (g n:Nat) (d0:Array UInt8) (hn:d0.size=n+1) (h0:∃ j,j≤n∧d0[j]!≠57) (hn1:n≤1000000)
 (J8:(convert 9 142 (.string (⟨#[48]⟩++⟨⟨s⟩⟩))).run Tryz.prog w=.ok (.slice (some ⟨g,0,none⟩) (n+1) cap) W1)
 (hH:Holds kD W1 g 0 d0)
 (hback:∀ dk:Array UInt8,dk.size=n+1→(convert 142 9 (.slice (some ⟨g,0,none⟩) (n+1) cap)).run Tryz.prog (putRow kD W1 g 0 dk)=.ok (.string ⟨dk⟩) (putRow kD W1 g 0 dk)) :
 Calls Tryz.prog 112 #[.string ⟨⟨s⟩⟩] w fun e w'=>∃ (k:Nat) (dk:Array UInt8),k≤n∧dk.size=n+1∧(∀ j,j≤k→dk[j]! =d0[j]!)∧(∀ j,k<j→j≤n→dk[j]! =48∧d0[j]! =57)∧d0[k]!≠57∧e=.returned (.string ⟨dk.setIfInBounds k (dk[k]!+1)⟩)∧w'=putRow kD W1 g 0 (dk.setIfInBounds k (dk[k]!+1)):=by
 go_enter Tryz.func112,Tryz.ntmps112
 go_wp2
 rw [← putRow_self kD W1 g 0 d0 hH]
 go_loopw [4] (fun i wr=>∃ (k:Nat) (dk:Array UInt8),k≤n∧i=.int .i64 k∧dk.size=n+1∧(∀ j,j≤k→dk[j]! =d0[j]!)∧(∀ j,k<j→j≤n→dk[j]! =48∧d0[j]! =57)∧wr=putRow kD W1 g 0 dk) (fun i _=>(iOf i).toNat)
 case atStart=>exact ⟨n,d0,Nat.le_refl _,by simp,hn,fun _ _=>rfl,fun j h1 h2=>by omega,rfl⟩
 case round=>
  obtain ⟨k,dk,hk,rfl,hdk,hr1,hr2,rfl⟩:=hrel
  have hc:=cell?_putRow kD W1 g 0 d0 dk hH (by omega) k (by omega)
  have hf:(putRow kD W1 g 0 dk).frozen? ⟨g,0+k,none⟩=false:=by rw [frozen?_putRow];exact (hH k (by omega)).2
  rw [Nat.zero_add] at hc hf
  have hs1:=putRow_set kD W1 g 0 dk k 48 (by omega)
  have hs2:=putRow_set kD W1 g 0 dk k (dk[k]!+1) (by omega)
  rw [Nat.zero_add] at hs1 hs2
  have hb2:=hback (dk.setIfInBounds k (dk[k]!+1)) (by simpa using hdk)
  obtain ⟨x,hx⟩:∃ x,dk[k]! =x:=⟨_,rfl⟩
  rw [hx] at hc hb2 hs2
  have eS:(x.toNat:Int)=57↔x=57:=⟨fun h=>UInt8.toNat_inj.1 (by have:(57:UInt8).toNat=57:=rfl;omega),fun h=>by rw [h];rfl⟩
  have hx1:((x+1).toNat:Int)=((x.toNat:Int)+1) % 256:=by
   have h1:(1:UInt8).toNat=1:=rfl
   have h2:=x.toNat_lt
   rw [UInt8.toNat_add];omega
  unfold kD at hc hs1 hs2 hb2
  rw [hx1] at hs2
  have hP:(((48:UInt8).toNat:Nat):Int)=48:=rfl
  rw [hP] at hs1
  generalize hwq:putRow (fun b:UInt8=>Value.int .u8 (b.toNat:Int)) W1 g 0 dk=wq at *
  have abg:putRow kD W1 g 0 dk=wq:=hwq
  rw [abg] at hf ⊢
  generalize hX:(x.toNat:Int)=X at *
  by_cases hS:X=57
  · subst hS
    have hxS:=eS.1 rfl
    have hk1:1≤k:=by
     rcases Nat.eq_zero_or_pos k with h | h
     · subst h
       obtain ⟨j,hj1,hj2⟩:=h0
       rcases Nat.eq_zero_or_pos j with h' | h'
       · subst h'
         exact absurd ((hr1 0 (Nat.le_refl _)).symm.trans (hx.trans hxS)) hj2
       · exact absurd (hr2 j h' hj1).2 hj2
     · exact h
    go_wp2
    refine ⟨⟨k-1,dk.setIfInBounds k 48,by omega,by congr 1;omega,by simpa using hdk,fun j hj=>?_,fun j h1 h2=>?_,rfl⟩,by simp [iOf];omega⟩
    · rw [getElem!_set_other dk k j 48 (by omega)];exact hr1 j (by omega)
    · by_cases hjk:j=k
      · subst hjk
        rw [getElem!_set_same dk j 48 (by omega),← hr1 j (Nat.le_refl _),hx]
        exact ⟨rfl,hxS⟩
      · rw [getElem!_set_other dk k j 48 hjk];exact hr2 j (by omega) h2
  · have hSb:(X==57)=false:=by simpa using hS
    go_wp2
    go_ret
    refine ⟨k,dk,hk,hdk,hr1,hr2,?_,by rw [hx];rfl,?_⟩
    · rw [← hr1 k (Nat.le_refl _),hx];intro h;exact hS (eS.2 h)
    · rw [hx];rfl
set_option maxRecDepth 1000000 in
set_option maxHeartbeats 4000000 in
theorem VA (s:List UInt8) (hlen:s.length≤1000000) (w:World) (cap:Nat) (W1:World) (g n:Nat) (d0:Array UInt8) (hn:d0.size=n+1) (h0:∃ j,j≤n∧d0[j]!≠48) (hn1:n≤1000000)
 (J8:(convert 9 142 (.string ⟨⟨s⟩⟩)).run Tryz.prog w=.ok (.slice (some ⟨g,0,none⟩) (n+1) cap) W1)
 (hH:Holds kD W1 g 0 d0)
 (hback:∀ dk:Array UInt8,dk.size=n+1→(convert 142 9 (.slice (some ⟨g,0,none⟩) (n+1) cap)).run Tryz.prog (putRow kD W1 g 0 dk)=.ok (.string ⟨dk⟩) (putRow kD W1 g 0 dk)) :
 Calls Tryz.prog 113 #[.string ⟨⟨s⟩⟩] w fun e w'=>∃ (k:Nat) (dk:Array UInt8),k≤n∧dk.size=n+1∧(∀ j,j≤k→dk[j]! =d0[j]!)∧(∀ j,k<j→j≤n→dk[j]! =57∧d0[j]! =48)∧d0[k]!≠48∧e=.returned (.string ⟨dk.setIfInBounds k (dk[k]!-1)⟩)∧w'=putRow kD W1 g 0 (dk.setIfInBounds k (dk[k]!-1)):=by
 go_enter Tryz.func113,Tryz.ntmps113
 go_wp2
 rw [← putRow_self kD W1 g 0 d0 hH]
 go_loopw [4] (fun i wr=>∃ (k:Nat) (dk:Array UInt8),k≤n∧i=.int .i64 k∧dk.size=n+1∧(∀ j,j≤k→dk[j]! =d0[j]!)∧(∀ j,k<j→j≤n→dk[j]! =57∧d0[j]! =48)∧wr=putRow kD W1 g 0 dk) (fun i _=>(iOf i).toNat)
 case atStart=>exact ⟨n,d0,Nat.le_refl _,by simp,hn,fun _ _=>rfl,fun j h1 h2=>by omega,rfl⟩
 case round=>
  obtain ⟨k,dk,hk,rfl,hdk,hr1,hr2,rfl⟩:=hrel
  have hc:=cell?_putRow kD W1 g 0 d0 dk hH (by omega) k (by omega)
  have hf:(putRow kD W1 g 0 dk).frozen? ⟨g,0+k,none⟩=false:=by rw [frozen?_putRow];exact (hH k (by omega)).2
  rw [Nat.zero_add] at hc hf
  have hs1:=putRow_set kD W1 g 0 dk k 57 (by omega)
  have hs2:=putRow_set kD W1 g 0 dk k (dk[k]!-1) (by omega)
  rw [Nat.zero_add] at hs1 hs2
  have hb2:=hback (dk.setIfInBounds k (dk[k]!-1)) (by simpa using hdk)
  obtain ⟨x,hx⟩:∃ x,dk[k]! =x:=⟨_,rfl⟩
  rw [hx] at hc hb2 hs2
  have eS:(x.toNat:Int)=48↔x=48:=⟨fun h=>UInt8.toNat_inj.1 (by have:(48:UInt8).toNat=48:=rfl;omega),fun h=>by rw [h];rfl⟩
  have hx1:((x-1).toNat:Int)=((x.toNat:Int)-1) % 256:=by
   have h1:(1:UInt8).toNat=1:=rfl
   have h2:=x.toNat_lt
   rw [UInt8.toNat_sub];omega
  unfold kD at hc hs1 hs2 hb2
  rw [hx1] at hs2
  have hP:(((57:UInt8).toNat:Nat):Int)=57:=rfl
  rw [hP] at hs1
  generalize hwq:putRow (fun b:UInt8=>Value.int .u8 (b.toNat:Int)) W1 g 0 dk=wq at *
  have abg:putRow kD W1 g 0 dk=wq:=hwq
  rw [abg] at hf ⊢
  generalize hX:(x.toNat:Int)=X at *
  by_cases hS:X=48
  · subst hS
    have hxS:=eS.1 rfl
    have hk1:1≤k:=by
     rcases Nat.eq_zero_or_pos k with h | h
     · subst h
       obtain ⟨j,hj1,hj2⟩:=h0
       rcases Nat.eq_zero_or_pos j with h' | h'
       · subst h'
         exact absurd ((hr1 0 (Nat.le_refl _)).symm.trans (hx.trans hxS)) hj2
       · exact absurd (hr2 j h' hj1).2 hj2
     · exact h
    go_wp2
    refine ⟨⟨k-1,dk.setIfInBounds k 57,by omega,by congr 1;omega,by simpa using hdk,fun j hj=>?_,fun j h1 h2=>?_,rfl⟩,by simp [iOf];omega⟩
    · rw [getElem!_set_other dk k j 57 (by omega)];exact hr1 j (by omega)
    · by_cases hjk:j=k
      · subst hjk
        rw [getElem!_set_same dk j 57 (by omega),← hr1 j (Nat.le_refl _),hx]
        exact ⟨rfl,hxS⟩
      · rw [getElem!_set_other dk k j 57 hjk];exact hr2 j (by omega) h2
  · have hSb:(X==48)=false:=by simpa using hS
    go_wp2
    go_ret
    refine ⟨k,dk,hk,hdk,hr1,hr2,?_,by rw [hx];rfl,?_⟩
    · rw [← hr1 k (Nat.le_refl _),hx];intro h;exact hS (eS.2 h)
    · rw [hx];rfl
theorem below_putRow {B:Nat}{a w:World}(h:Below B a w){g:Nat}(hg:B≤g) (d:Array UInt8):Below B a (putRow kD w g 0 d):=
 h.trans ⟨rfl,rfl,rfl,by simp,fun k hk=>by simp only [putRow,mapBlock,Array.getElem?_modify];rw [if_neg (by omega)]⟩
theorem Po (w:World) (l:List UInt8):∃ (cap:Nat) (W1:World),(convert 9 142 (.string ⟨⟨l⟩⟩)).run Tryz.prog w=.ok (.slice (some ⟨w.heap.size,0,none⟩) l.length cap) W1∧Holds kD W1 w.heap.size 0 ⟨l⟩∧Below w.heap.size w W1∧
  ∀ dk:Array UInt8,dk.size=l.length→(convert 142 9 (.slice (some ⟨w.heap.size,0,none⟩) l.length cap)).run Tryz.prog (putRow kD W1 w.heap.size 0 dk)=.ok (.string ⟨dk⟩) (putRow kD W1 w.heap.size 0 dk):=by
 have us:Tryz.prog.underlying 9=some .string:=by kernel_rfl
 have ub:Tryz.prog.underlying 142=some (.slice 5):=by kernel_rfl
 have u8:Tryz.prog.underlying 5=some (.int .u8):=by kernel_rfl
 have J8:=run_bytes_of_string (P:=Tryz.prog) w 9 142 5 ⟨⟨l⟩⟩ us ub u8
 have hsz:(ByteArray.mk ⟨l⟩).size=l.length:=by simp [ByteArray.size]
 rw [hsz] at J8
 generalize hcap:grownCap w l.length 0 5=cap at J8
 generalize hC:bytesRow ⟨⟨l⟩⟩ cap=C at J8
 have hCl:l.length≤C.size:=by rw [← hC];simp [bytesRow]
 have hH:Holds kD (w.drew.alloc (.cells C 5 (C.size,C.size+1))) w.heap.size 0 ⟨l⟩:=by
  intro j hj
  have hj':j<l.length:=hj
  have h1:=World.cell?_alloc_mark w.drew C 5 (C.size,C.size+1) (0+j)
  have h2:=World.frozen?_alloc_mark w.drew C 5 C.size (C.size+1) (0+j)
  have hh:w.drew.heap.size=w.heap.size:=rfl
  rw [hh] at h1 h2
  refine ⟨h1.trans ?_,h2.trans ?_⟩
  · rw [Nat.zero_add,← hC,bytesRow_at ⟨⟨l⟩⟩ cap j hj]
    simp [kD,hj']
  · have:decide (C.size≤0+j)=false:=decide_eq_false (by omega)
    rw [this];rfl
 refine ⟨cap,_,J8,hH,(Below.refl _ _).drew.alloc (Nat.le_refl _) _,fun dk hdk=>?_⟩
 have acs:=holds_putRow kD _ w.heap.size 0 ⟨l⟩ dk hH hdk
 have:=run_convert_bytes_back (P:=Tryz.prog) (putRow kD (w.drew.alloc (.cells C 5 (C.size,C.size+1))) w.heap.size 0 dk) 142 9 5 ⟨w.heap.size,0,none⟩ cap dk.toList ub u8 us (fun j hj=>by
  have hj':j<dk.size:=by simpa using hj
  have:=(acs j hj').1
  rw [add_lit,this,kD]
  simp [hj'])
 have hl:dk.toList.length=l.length:=by simpa using hdk
 rw [hl] at this
 simpa using this
theorem Pp {b:List UInt8}{c:UInt8}{k:Nat}(hk:k<b.length) (h1:b[k]?≠some c) (h2:∀ j,k<j→j<b.length→b[j]?=some c):(Lib.trimRightB b c).length=k+1:=by
 have hb:b=b.take k++[b[k]]++List.replicate (b.length-(k+1)) c:=by
  apply List.ext_getElem?
  intro j
  rcases Nat.lt_trichotomy j k with h | h | h
  · rw [List.append_assoc,List.getElem?_append_left (by rw [length_take];omega),List.getElem?_take,if_pos h]
  · subst h
    rw [List.getElem?_append_left (by simp;omega),List.getElem?_append_right (by rw [length_take];omega),List.getElem?_eq_getElem hk]
    simp [Nat.min_eq_left (Nat.le_of_lt hk)] <;> omega
  · have hl:(b.take k++[b[k]]).length=k+1:=by simp;omega
    rw [List.getElem?_append_right (by omega),hl,List.getElem?_replicate]
    rcases Nat.lt_or_ge j b.length with g | g
    · rw [if_pos (by omega),h2 j h g]
    · rw [if_neg (by omega),List.getElem?_eq_none g]
 have hne:b[k]≠c:=fun e=>h1 (by rw [List.getElem?_eq_getElem hk,e])
 have Eu:∀ (n:Nat) (l:List UInt8),List.dropWhile (·==c) (List.replicate n c++l)=List.dropWhile (·==c) l:=by
  intro n l
  induction n with
  | zero=>rfl
  | succ n ih=>rw [List.replicate_succ,List.cons_append,List.dropWhile_cons];simp [ih]
 unfold Lib.trimRightB
 rw [hb,List.reverse_append,List.reverse_replicate,Eu,List.reverse_append]
 have:(b[k]==c)=false:=by simpa using hne
 simp only [List.reverse_cons,List.reverse_nil,List.nil_append,List.cons_append,List.dropWhile_cons,this,Bool.false_eq_true,if_false,List.length_append,List.length_reverse,length_cons,List.length_nil,length_take]
 omega
def X4 (b:List UInt8):List UInt8:=b.take ((Lib.trimRightB b 57).length-1)++(b.getD ((Lib.trimRightB b 57).length-1) 0+1)::List.replicate (b.length-(Lib.trimRightB b 57).length) 48
def qJ (s:List UInt8):List UInt8:=X4 (48::s)
theorem Pq {b:List UInt8}{dk:Array UInt8}{k:Nat}{x p:UInt8}(hdk:dk.size=b.length) (hk:k<b.length) (h1:∀ j,j≤k→dk[j]! =(⟨b⟩:Array UInt8)[j]!) (h2:∀ j,k<j→j<b.length→dk[j]! =p) :
  dk.setIfInBounds k x=(b.take k++x::List.replicate (b.length-(k+1)) p).toArray:=by
 apply Array.ext_getElem?
 intro j
 rw [Array.getElem?_setIfInBounds,hdk]
 have hg:∀ (i:Nat) (_:i<dk.size),dk[i]?=some dk[i]!:=fun i hi=>by rw [getElem!_pos dk i hi];exact Array.getElem?_eq_getElem hi
 have hR:(b.take k++x::List.replicate (b.length-(k+1)) p).toArray[j]?=(b.take k++x::List.replicate (b.length-(k+1)) p)[j]?:=List.getElem?_toArray
 rw [hR]
 rcases Nat.lt_trichotomy j k with h | h | h
 · rw [if_neg (by omega),hg j (by omega),h1 j (by omega),List.getElem?_append_left (by rw [length_take];omega),List.getElem?_take,if_pos h,getElem!_pos (⟨b⟩:Array UInt8) j (by simp;omega),List.getElem?_eq_getElem (by omega)]
   rfl
 · subst h
   rw [if_pos rfl,if_pos hk,List.getElem?_append_right (by rw [length_take];omega)]
   simp [Nat.min_eq_left (Nat.le_of_lt hk)]
 · rw [if_neg (by omega)]
   have hl:(b.take k).length=k:=by rw [length_take];omega
   rw [List.getElem?_append_right (by omega),hl,show j-k=(j-k-1)+1 by omega,List.getElem?_cons_succ,List.getElem?_replicate]
   rcases Nat.lt_or_ge j b.length with g | g
   · rw [if_pos (by omega),hg j (by omega),h2 j h g]
   · rw [if_neg (by omega),Array.getElem?_eq_none (by omega)]
theorem uw {b:List UInt8}{j:Nat}(h:j<b.length):b[j]?=some ((⟨b⟩:Array UInt8)[j]!):=by
 rw [getElem!_pos (⟨b⟩:Array UInt8) j (by simpa using h),List.getElem?_eq_getElem h];rfl
theorem VB (s:List UInt8) (hs:s.length≤1000000):ah Tryz.prog 112 [.str s] [] (.str (qJ s)) []:=by
 refine ah.oK ⟨_,Tryz.func112,by kernel_rfl,by kernel_rfl⟩ fun w vs ok hg hr=>?_
 obtain ⟨u,rfl,h⟩:=Y3 hr
 cases jS h
 obtain ⟨cap,W1,h1,h2,h3,h4⟩:=Po w (48::s)
 have hB:(⟨#[48]⟩++⟨⟨s⟩⟩:ByteArray)=⟨⟨48::s⟩⟩:=by
  apply ByteArray.ext
  rw [ByteArray.data_append]
  apply Array.ext'
  simp
 refine (Vz s hs w cap W1 w.heap.size s.length ⟨48::s⟩ (by simp) ⟨0,Nat.zero_le _,by rw [show (⟨48::s⟩:Array UInt8)[0]! =48 from rfl];decide⟩ hs (by rw [hB];exact h1) h2 h4).mono ?_
 rintro e w' ⟨k,dk,k1,k2,k3,k4,k5,rfl,rfl⟩
 have kl:k<(48::s).length:=by simp only [length_cons];omega
 have ht:=Pp (b:=48::s) (c:=57) kl (by rw [uw kl];exact fun e=>k5 (Option.some.inj e)) (fun j h1 h2=>by
  rw [uw h2,(k4 j h1 (by simp only [length_cons] at h2;omega)).2])
 have hrow:=Pq (b:=48::s) (x:=dk[k]!+1) (p:=48) (by rw [k2];rfl) kl k3 (fun j h1 h2=>(k4 j h1 (by simp only [length_cons] at h2;omega)).1)
 have hres:(48::s).take k++(dk[k]!+1)::List.replicate ((48::s).length-(k+1)) 48=qJ s:=by
  rw [qJ,X4,ht,Nat.add_sub_cancel,List.getD_eq_getElem?_getD,uw kl,k3 k (Nat.le_refl _)];rfl
 rw [hres] at hrow
 exact ⟨_,rfl,fun w ok=>by rw [hrow];exact .str _,below_putRow h3 (Nat.le_refl _) _⟩
theorem VD (s:List UInt8) (h0:0<(Lib.trimRightB s 48).length) (hs:s.length≤1000000):ah Tryz.prog 113 [.str s] [] (.str (nJ s)) []:=by
 refine ah.oK ⟨_,Tryz.func113,by kernel_rfl,by kernel_rfl⟩ fun w vs ok hg hr=>?_
 obtain ⟨u,rfl,h⟩:=Y3 hr
 cases jS h
 obtain ⟨cap,W1,h1,h2,h3,h4⟩:=Po w s
 obtain ⟨d,hd,hne⟩:=zN h0
 have hdl:=(List.getElem?_eq_some_iff.1 hd).1
 obtain ⟨n,hn⟩:∃ n,s.length=n+1:=⟨s.length-1,by omega⟩
 rw [hn] at h1 h4
 refine (VA s hs w cap W1 w.heap.size n ⟨s⟩ hn ⟨(Lib.trimRightB s 48).length-1,by omega,by
  rw [uw hdl] at hd;rw [Option.some.inj hd];exact hne⟩ (by omega) h1 h2 h4).mono ?_
 rintro e w' ⟨k,dk,k1,k2,k3,k4,k5,rfl,rfl⟩
 have kl:k<s.length:=by omega
 have ht:=Pp (b:=s) (c:=48) kl (by rw [uw kl];exact fun e=>k5 (Option.some.inj e)) (fun j h1 h2=>by
  rw [uw h2,(k4 j h1 (by omega)).2])
 have hrow:=Pq (b:=s) (x:=dk[k]!-1) (p:=57) (by rw [k2,hn]) kl k3 (fun j h1 h2=>(k4 j h1 (by omega)).1)
 have hres:s.take k++(dk[k]!-1)::List.replicate (s.length-(k+1)) 57=nJ s:=by
  rw [nJ,ht,Nat.add_sub_cancel,List.getD_eq_getElem?_getD,uw kl,k3 k (Nat.le_refl _)];rfl
 rw [hres] at hrow
 exact ⟨_,rfl,fun w ok=>by rw [hrow];exact .str _,below_putRow h3 (Nat.le_refl _) _⟩
def BB:dN:=fun args objs K=>match args with
 | [.str s]=>(s.length≤1000000)∧K (.str (qJ s)) objs 0
 | _=>False
theorem RY:aF Tryz.prog 112 (BB):=by
 intro args objs K h
 unfold BB at h
 split at h
 · rename_i s
   obtain ⟨h1,hk⟩:=h
   exact ⟨_,_,_,.pure _ rfl (VB s h1),hk⟩
 · exact h.elim
def uz:dN:=fun args objs K=>match args with
 | [.str s]=>(0<(Lib.trimRightB s 48).length)∧(s.length≤1000000)∧K (.str (nJ s)) objs 0
 | _=>False
theorem RZ:aF Tryz.prog 113 (uz):=by
 intro args objs K h
 unfold uz at h
 split at h
 · rename_i s
   obtain ⟨h1,h2,hk⟩:=h
   exact ⟨_,_,_,.pure _ rfl (VD s h1 h2),hk⟩
 · exact h.elim
theorem VE (s:List UInt8):(qJ s).length≤s.length+2:=by
 unfold qJ X4
 have:=nk (48::s) 57
 simp only [List.length_append,length_take,length_cons,List.length_replicate] at *;omega
theorem R7 (neg:Bool) (x:List UInt8) (e:Int):dO neg (48::x) e=dO neg x e:=by
 have h1:fM (48::x)=fM x:=by simp [fM]
 have h2:Lib.trimLeftB (48::x) 48=Lib.trimLeftB x 48:=rfl
 unfold dO
 rw [h1,h2]
theorem R8 (neg:Bool) (s:List UInt8) (e:Int):dO neg (qJ s) e=dO neg (MU s) e:=by
 have hrev:Lib.trimRightB (48::s) 57=if Lib.trimRightB s 57=[] then [48] else 48::Lib.trimRightB s 57:=by
  unfold Lib.trimRightB
  rw [List.reverse_cons]
  cases h:s.reverse.dropWhile (·==(57:UInt8)) with
  | nil=>
   have:(s.reverse++[48]).dropWhile (·==(57:UInt8))=[48]:=by
    rw [List.dropWhile_append,h];rfl
   rw [this];rfl
  | cons a t=>
   have:(s.reverse++[48]).dropWhile (·==(57:UInt8))=(a::t)++[48]:=by
    rw [List.dropWhile_append,h];rfl
   rw [this]
   simp
 by_cases h:Lib.trimRightB s 57=[]
 · rw [if_pos h] at hrev
   have:qJ s=MU s:=by
    rw [qJ,X4,hrev,MU,h];rfl
   rw [this]
 · rw [if_neg h] at hrev
   have hl:0<(Lib.trimRightB s 57).length:=List.length_pos_iff.2 h
   have:qJ s=48::MU s:=by
    rw [qJ,X4,hrev,MU,if_neg (by omega)]
    obtain ⟨n,hn⟩:∃ n,(Lib.trimRightB s 57).length=n+1:=⟨_,(Nat.succ_pred_eq_of_pos hl).symm⟩
    simp [hn]
   rw [this,R7]
end Lp
namespace Lp
open Go Go.Proofs Go.RowKit
open List (append_assoc append_nil cons_append length_append length_cons length_map length_nil map_nil nil_append take_length)
open Nat (le_succ lt_irrefl lt_or_ge reduceAdd reduceLeDiff reduceMul reduceSub)
open Int (reduceLE reduceToNat)
theorem adf:uN bV:=by intro d n o x;cases d <;> rfl
theorem acu (l:List lJ):eP 1 0 [⟨54,1,[bV l],true,1⟩] (.bM 0 1 0 0)=.addr (bV l):=by
 simp only [eP,Nat.not_lt_zero,if_false,fG,List.getElem?_cons_zero,Nat.zero_le,decide_true,Bool.and_self,BEq.rfl,if_true]
 rw [adf]
theorem Ev (l:List lJ):ah Tryz.prog 50 [bV l] [] (.fn 74 [] [.addr (bV l)]) []:=by
 refine Au.bg (T:=aQ Tryz.prog []) 0 hD (aj ai) aV (by decide) fun Q hQ=>?_
 (conv=>arg 4;cbv);simp(maxSteps:=400000)only[↓aS,aT,BEq.rfl,reduceIte,reduceCtorEq,Nat.reduceLT,reduceAdd,reduceSub,reduceMul,Nat.reduceBEq,reduceLeDiff,reduceToNat,reduceLE,hQ]
 refine aR _ (Weak.freeze 1 0 (Nat.zero_le _) _) ?_
 simp(maxSteps:=400000)only[↓aS,aT,BEq.rfl,reduceIte,reduceCtorEq,Nat.reduceLT,reduceAdd,reduceSub,reduceMul,Nat.reduceBEq,reduceLeDiff,reduceToNat,reduceLE,hQ,acu]
theorem abh (O:List Obj) :
  (∀ x X,(O++x::X)[O.length]?=some x)∧(∀ x y X,(O++x::y::X)[O.length+1]?=some y)∧(∀ x y z X,(O++x::y::z::X)[O.length+2]?=some z)∧
  (∀ x z X,(O++x::X).set O.length z=O++z::X)∧(∀ x y z X,(O++x::y::X).set (O.length+1) z=O++x::z::X)∧(∀ x y z u X,(O++x::y::z::X).set (O.length+2) u=O++x::y::u::X):=by
 refine ⟨fun x X=>?_,fun x y X=>?_,fun x y z X=>?_,fun x z X=>?_,fun x y z X=>?_,fun x y z u X=>?_⟩
 · rw [List.getElem?_append_right (Nat.le_refl _)];simp
 · rw [List.getElem?_append_right (by omega)];simp
 · rw [List.getElem?_append_right (by omega)];simp
 · rw [List.set_append_right _ _ (Nat.le_refl _)];simp
 · rw [List.set_append_right _ _ (by omega)];simp
 · rw [List.set_append_right _ _ (by omega)];simp
theorem TD:PV.ve (.agg ⟨[.int .i64 0,.int .i64 0,.int .i64 0,.string ⟨⟨[]⟩⟩,.string ⟨⟨[]⟩⟩,.bool false,.int .i64 0]⟩)=dL ⟨0,⟨0,0,[],[],false,0⟩⟩:=rfl
def sD (xs:List Nd) (ver:Nat):Obj:=⟨42,6,xs.map au,true,ver⟩
def BD (a:lJ):List Nd:=if a.c.kind=3 then a.c::((if (dm a.c true).2 then [(dm a.c true).1] else [])++if (dm a.c false).2 then [(dm a.c false).1] else []) else []
def BF (a:lJ):List Nd:=if a.c.kind=4 then [a.c,⟨4,0,[],a.c.s++[0],false,0⟩] else []
theorem uD:∀ l,jB l=(l.map BD).flatten
 | []=>rfl
 | a::l=>by simp only [jB,List.map_cons,List.flatten_cons,uD l];rfl
theorem uE:∀ l,lg l=(l.map BF).flatten
 | []=>rfl
 | a::l=>by simp only [lg,List.map_cons,List.flatten_cons,uE l];rfl
theorem G7 {l:List lJ}{i:Nat}{a:lJ}(h:l[i]?=some a):jB (l.take (i+1))=jB (l.take i)++BD a:=by
 rw [uD,uD,List.take_add_one,h];simp
theorem G8 {l:List lJ}{i:Nat}{a:lJ}(h:l[i]?=some a):lg (l.take (i+1))=lg (l.take i)++BF a:=by
 rw [uE,uE,List.take_add_one,h];simp
theorem sF:∀ l:List lJ,(jB l).length≤3*l.length
 | []=>by simp [jB]
 | a::l=>by
  have:=sF l
  simp only [jB,length_append,length_cons]
  split
  · simp only [length_cons,length_append]
    split <;> split <;> simp only [length_cons,length_nil] <;> omega
  · simp only [length_nil];omega
theorem xC:∀ l:List lJ,(lg l).length≤2*l.length
 | []=>by simp [lg]
 | a::l=>by
  have:=xC l
  simp only [lg,length_append,length_cons]
  split
  · simp only [length_cons,length_nil];omega
  · simp only [length_nil];omega
def BG:List Nd:=[⟨0,0,[],[],false,0⟩,⟨1,0,[],[],false,0⟩,⟨2,0,[],[],false,0⟩,⟨3,0,[],[],false,0⟩]
def E5 (a:lJ) (b:Bool):List Nd:=if (dm a.c b).2 then [(dm a.c b).1] else []
theorem C_ {a:lJ}(h:a.c.kind=3):BD a=[a.c]++E5 a true++E5 a false:=by
 rw [BD,if_pos h];simp [E5]
theorem uT (xs:List Nd) (n:Nd):List.map au xs++[au n]=List.map au (xs++[n]):=by simp
theorem aav (xs:List Nd) (n m:Nd):List.map au xs++[au n,au m]=List.map au (xs++[n,m]):=by simp
theorem Ew (n:Nd):Nd.mk n.kind n.many n.name n.s n.neg n.e=n:=rfl
theorem Ps (xs:List Nd) (ver:Nat):Obj.mk 42 6 (List.map au xs) true ver=sD xs ver:=rfl
theorem Mq:(∀ xs v,(sD xs v).live=true)∧(∀ xs v,(sD xs v).ver=v)∧(∀ xs v,(sD xs v).sz=6)∧(∀ xs v,(sD xs v).ty=42)∧(∀ xs v,(sD xs v).xs=List.map au xs):=
 ⟨fun _ _=>rfl,fun _ _=>rfl,fun _ _=>rfl,fun _ _=>rfl,fun _ _=>rfl⟩
theorem Zi {O:List Obj}(h:jw O) (xs:List Nd) (ver:Nat):jw (O++[sD xs ver]):=by
 intro o ho x hx c hc
 rw [length_append]
 rcases List.mem_append.1 ho with ho | ho
 · have:=h o ho x hx c hc
   exact FQ (Nat.le_add_right _ _) this
 · rw [List.mem_singleton] at ho;subst ho
   obtain ⟨n,_,rfl⟩:=List.mem_map.1 hx
   simp only [au,PV.cells,List.mem_cons,List.not_mem_nil,or_false] at hc
   rcases hc with rfl | rfl | rfl | rfl | rfl | rfl <;> rfl
theorem acv {O:List Obj}(h:jw O) :
  (∀ d xs ver X,List.map (fu d (O.length+1) (O++sD xs ver::X)) (List.take (O.length+1) (O++sD xs ver::X))=O++[sD xs ver])∧
  (∀ d X ver,eP d (O.length+1) X (.aY O.length ver)=.aY O.length ver)∧
  (∀ x (a:lJ),eP 1 (O.length+1) (O++[x,⟨87,7,[dL a],true,1⟩]) (.bM (O.length+1) 1 0 0)=.addr (dL a)):=by
 refine ⟨fun d xs ver X=>?_,fun d X ver=>?_,fun x a=>?_⟩
 · have e:List.take (O.length+1) (O++sD xs ver::X)=O++[sD xs ver]:=by
    rw [List.take_append,List.take_of_length_le (by omega)];simp
   rw [e]
   have:=EJ (d:=d) (objs':=O++sD xs ver::X) (Zi h xs ver)
   rwa [length_append] at this
 · simp [eP]
 · have:(O++[x,⟨87,7,[dL a],true,1⟩])[O.length+1]?=some ⟨87,7,[dL a],true,1⟩:=by
    rw [List.getElem?_append_right (by omega)];simp
   simp only [eP,lt_irrefl,if_false,fG,this,Nat.le_refl,decide_true,Bool.and_self,BEq.rfl,if_true]
   rfl
theorem aaw {O:List Obj}(h:jw O) :
  (∀ d X,List.map (fu d O.length (O++X)) (List.take O.length (O++X))=O)∧
  (∀ xs v,eP 1 O.length (O++[sD xs v]) (.aY O.length v)=aD xs):=by
 refine ⟨fun d X=>?_,fun xs v=>?_⟩
 · rw [List.take_append_of_le_length (Nat.le_refl _),take_length]
   exact EJ h
 · have:(O++[sD xs v])[O.length]?=some (sD xs v):=by
    rw [List.getElem?_append_right (Nat.le_refl _)];simp
   simp only [eP,lt_irrefl,if_false,fG,this,Mq,Nat.le_refl,decide_true,Bool.and_self,BEq.rfl,if_true]
   rw [p8 au fun n=>rfl]
   rfl
theorem acw {O:List Obj}(h:jw O) :
  (∀ d X,List.map (fu d O.length (O++X)) (List.take O.length (O++X))=O)∧
  (∀ n:Nd,eP 1 O.length (O++[⟨42,6,[au n],true,1⟩]) (.bM O.length 1 0 0)=.addr (au n)):=by
 refine ⟨(aaw h).1,fun n=>?_⟩
 have:(O++[⟨42,6,[au n],true,1⟩])[O.length]?=some ⟨42,6,[au n],true,1⟩:=by
  rw [List.getElem?_append_right (Nat.le_refl _)];simp
 simp only [eP,lt_irrefl,if_false,fG,this,Nat.le_refl,decide_true,Bool.and_self,BEq.rfl,if_true]
 rfl
theorem R9 (l:List lJ) (hl:l.length≤1000000) (hn:∀ a ∈ l,a.c.kind=3→Mg a.c) (hs:∀ a ∈ l,a.c.s.length≤1000000):Gives Tryz.prog 74 [.addr (bV l)] ((gH l).map fun c=>[au c]):=by
 refine xN.gives (fnT:=tF [(75,nu)]) hD (af Mi ai) aV ?_
 intro I J objs y hI Hw VQ
 have hO:=(Hw 0 objs hI).2
 (conv=>arg 4;cbv);simp(maxSteps:=400000)only[↓aS,aT,BEq.rfl,reduceIte,reduceCtorEq,Nat.reduceLT,reduceAdd,reduceSub,reduceMul,Nat.reduceBEq,reduceLeDiff,reduceToNat,reduceLE,bA,bB]
 refine aA (fun m S=>∃ (i ver:Nat),i+m=l.length∧S=⟨dh 90 [(0,.D9 y),(1,.addr (bV l)),(3,.aY objs.length ver),(19,bV l),(20,.int .i64 l.length),(21,.int .i64 i)],objs++[sD (BG++jB (l.take i)) ver]⟩) l.length ⟨0,1,by omega,?_⟩ ?_
 · simp only [bJ,keepR,reduceAdd,kU,Nat.reduceBEq,map_nil]
   rfl
 rintro m S ⟨i,ver,him,rfl⟩
 rcases lt_or_ge i l.length with h | h
 · have hlt:((i:Int)<(l.length:Int))=True:=eq_true (by omega)
   have zi:(0≤(i:Int))=True:=eq_true (by omega)
   have hgi:=List.getElem?_eq_getElem h
   generalize l[i]=a at hgi
   have oB:=abh objs
   have oF:=acv hO
   have hxl:(BG++jB (l.take i)).length≤4+3*i:=by
    have h1:=sF (l.take i)
    have h2:(l.take i).length≤i:=List.length_take_le i l
    have h3:BG.length=4:=rfl
    rw [length_append];omega
   have htk:=G7 hgi
   have c0:BG++jB (l.take (i+1))=(BG++jB (l.take i))++BD a:=by rw [htk,append_assoc]
   generalize hX:BG++jB (l.take i)=X at hxl c0
   by_cases hk:a.c.kind=3
   rotate_left 1
   · have k3:(a.c.kind=3)=False:=eq_false hk
     simp(maxSteps:=400000)only[↓aS,aT,BEq.rfl,reduceIte,reduceCtorEq,Nat.reduceLT,reduceAdd,reduceSub,reduceMul,Nat.reduceBEq,reduceLeDiff,reduceToNat,reduceLE,hlt,zi,hgi,k3,oB,TD,Ew,append_assoc,cons_append,nil_append,length_append,length_cons,length_nil]
     refine aR _ (Weak.freeze 1 (objs.length+1) (le_succ _) _) ?_
     simp(maxSteps:=400000)only[↓aS,aT,BEq.rfl,reduceIte,reduceCtorEq,Nat.reduceLT,reduceAdd,reduceSub,reduceMul,Nat.reduceBEq,reduceLeDiff,reduceToNat,reduceLE,oF]
     have e1:BD a=[]:=if_neg hk
     exact ⟨⟨by omega,by omega⟩,m-1,by omega,i+1,ver,by omega,by rw [c0,e1,append_nil];rfl⟩
   · have k3:(a.c.kind=3)=True:=eq_true hk
     have Zj:=hn a (List.mem_of_getElem? hgi) hk
     simp(maxSteps:=400000)only[↓aS,aT,BEq.rfl,reduceIte,reduceCtorEq,Nat.reduceLT,reduceAdd,reduceSub,reduceMul,Nat.reduceBEq,reduceLeDiff,reduceToNat,reduceLE,hlt,zi,hgi,k3,oB,TD,bA,bB,Ew,Mq,append_assoc,cons_append,nil_append,length_append,length_cons,length_nil,length_map,uT,Ps]
     refine ⟨by omega,by omega,?_⟩
     refine aR _ (Weak.freeze 1 (objs.length+1) (le_succ _) _) ?_
     simp(maxSteps:=400000)only[↓aS,aT,BEq.rfl,reduceIte,reduceCtorEq,Nat.reduceLT,reduceAdd,reduceSub,reduceMul,Nat.reduceBEq,reduceLeDiff,reduceToNat,reduceLE,oF]
     have l1:(E5 a true).length≤1:=by unfold E5;split <;> simp
     have l2:(E5 a false).length≤1:=by unfold E5;split <;> simp
     have st:∀ (j:Int) (xs:List Nd) (v:Nat),St:=fun j xs v=>⟨dh 90 [(0,.D9 y),(1,.addr (bV l)),(3,.aY objs.length v),(5,.addr (dL a)),(19,bV l),(20,.int .i64 l.length),(21,.int .i64 i),(34,.sl 1 [.bool true,.bool false] none),(35,.int .i64 ((2:Nat):Int)),(36,.int .i64 j)],objs++[sD xs v]⟩
     refine aA (fun m' S=>∃ (v:Nat) (j:Int) (xs:List Nd),(j=0∧m'=2∧xs=X++[a.c]∨j=1∧m'=1∧xs=X++[a.c]++E5 a true∨j=2∧m'=0∧xs=X++[a.c]++E5 a true++E5 a false)∧S=⟨dh 90 [(0,.D9 y),(1,.addr (bV l)),(3,.aY objs.length v),(5,.addr (dL a)),(19,bV l),(20,.int .i64 l.length),(21,.int .i64 i),(34,.sl 1 [.bool true,.bool false] none),(35,.int .i64 ((2:Nat):Int)),(36,.int .i64 j)],objs++[sD xs v]⟩) 2 ⟨ver+1,0,_,.inl ⟨rfl,rfl,rfl⟩,?_⟩ ?_
     · simp only [bJ,keepR,reduceAdd,kU,Nat.reduceBEq,map_nil]
     rintro m' S ⟨v,j,xs,hj,rfl⟩
     have n2:((2:Nat):Int)=2:=rfl
     rcases hj with ⟨rfl,rfl,hxs⟩ | ⟨rfl,rfl,hxs⟩ | ⟨rfl,rfl,hxs⟩
     · have VF:xs.length≤8+3*i:=by rw [hxs];simp only [length_append,length_cons,length_nil];omega
       cases hb:(dm a.c true).2
       · simp(maxSteps:=400000)only[↓aS,aT,BEq.rfl,reduceIte,reduceCtorEq,Nat.reduceLT,reduceAdd,reduceSub,reduceMul,Nat.reduceBEq,reduceLeDiff,reduceToNat,reduceLE,n2,Int.reduceLT,oB,bA,bB,Ew,Mq,↓nu,dM,hb,bN,append_assoc,cons_append,nil_append,length_append,length_cons,length_nil,length_map,uT,Ps]
         refine ⟨Zj,?_⟩
         refine aR _ (Weak.freeze 1 (objs.length+1) (le_succ _) _) ?_
         simp(maxSteps:=400000)only[↓aS,aT,BEq.rfl,reduceIte,reduceCtorEq,Nat.reduceLT,reduceAdd,reduceSub,reduceMul,Nat.reduceBEq,reduceLeDiff,reduceToNat,reduceLE,oF]
         have hbs:E5 a true=[]:=by simp [E5,hb]
         exact ⟨⟨by omega,by omega⟩,1,by omega,v,1,xs,.inr (.inl ⟨rfl,rfl,by rw [hxs,hbs,append_nil]⟩),rfl⟩
       · simp(maxSteps:=400000)only[↓aS,aT,BEq.rfl,reduceIte,reduceCtorEq,Nat.reduceLT,reduceAdd,reduceSub,reduceMul,Nat.reduceBEq,reduceLeDiff,reduceToNat,reduceLE,n2,Int.reduceLT,oB,bA,bB,Ew,Mq,↓nu,dM,hb,bN,append_assoc,cons_append,nil_append,length_append,length_cons,length_nil,length_map,uT,Ps]
         refine ⟨Zj,by omega,by omega,?_⟩
         refine aR _ (Weak.freeze 1 (objs.length+1) (le_succ _) _) ?_
         simp(maxSteps:=400000)only[↓aS,aT,BEq.rfl,reduceIte,reduceCtorEq,Nat.reduceLT,reduceAdd,reduceSub,reduceMul,Nat.reduceBEq,reduceLeDiff,reduceToNat,reduceLE,oF]
         have hbs:E5 a true=[(dm a.c true).1]:=by simp [E5,hb]
         exact ⟨⟨by omega,by omega⟩,1,by omega,v+1,1,xs++[(dm a.c true).1],.inr (.inl ⟨rfl,rfl,by rw [hxs,hbs]⟩),rfl⟩
     · have VF:xs.length≤8+3*i:=by rw [hxs];simp only [length_append,length_cons,length_nil];omega
       cases hb:(dm a.c false).2
       · simp(maxSteps:=400000)only[↓aS,aT,BEq.rfl,reduceIte,reduceCtorEq,Nat.reduceLT,reduceAdd,reduceSub,reduceMul,Nat.reduceBEq,reduceLeDiff,reduceToNat,reduceLE,n2,Int.reduceLT,oB,bA,bB,Ew,Mq,↓nu,dM,hb,bN,append_assoc,cons_append,nil_append,length_append,length_cons,length_nil,length_map,uT,Ps]
         refine ⟨Zj,?_⟩
         refine aR _ (Weak.freeze 1 (objs.length+1) (le_succ _) _) ?_
         simp(maxSteps:=400000)only[↓aS,aT,BEq.rfl,reduceIte,reduceCtorEq,Nat.reduceLT,reduceAdd,reduceSub,reduceMul,Nat.reduceBEq,reduceLeDiff,reduceToNat,reduceLE,oF]
         have hbs:E5 a false=[]:=by simp [E5,hb]
         exact ⟨⟨by omega,by omega⟩,0,by omega,v,2,xs,.inr (.inr ⟨rfl,rfl,by rw [hxs,hbs,append_nil]⟩),rfl⟩
       · simp(maxSteps:=400000)only[↓aS,aT,BEq.rfl,reduceIte,reduceCtorEq,Nat.reduceLT,reduceAdd,reduceSub,reduceMul,Nat.reduceBEq,reduceLeDiff,reduceToNat,reduceLE,n2,Int.reduceLT,oB,bA,bB,Ew,Mq,↓nu,dM,hb,bN,append_assoc,cons_append,nil_append,length_append,length_cons,length_nil,length_map,uT,Ps]
         refine ⟨Zj,by omega,by omega,?_⟩
         refine aR _ (Weak.freeze 1 (objs.length+1) (le_succ _) _) ?_
         simp(maxSteps:=400000)only[↓aS,aT,BEq.rfl,reduceIte,reduceCtorEq,Nat.reduceLT,reduceAdd,reduceSub,reduceMul,Nat.reduceBEq,reduceLeDiff,reduceToNat,reduceLE,oF]
         have hbs:E5 a false=[(dm a.c false).1]:=by simp [E5,hb]
         exact ⟨⟨by omega,by omega⟩,0,by omega,v+1,2,xs++[(dm a.c false).1],.inr (.inr ⟨rfl,rfl,by rw [hxs,hbs]⟩),rfl⟩
     · simp(maxSteps:=400000)only[↓aS,aT,BEq.rfl,reduceIte,reduceCtorEq,Nat.reduceLT,reduceAdd,reduceSub,reduceMul,Nat.reduceBEq,reduceLeDiff,reduceToNat,reduceLE,n2,Int.reduceLT]
       refine aR _ (Weak.freeze 1 (objs.length+1) (le_succ _) _) ?_
       simp(maxSteps:=400000)only[↓aS,aT,BEq.rfl,reduceIte,reduceCtorEq,Nat.reduceLT,reduceAdd,reduceSub,reduceMul,Nat.reduceBEq,reduceLeDiff,reduceToNat,reduceLE,oF]
       exact ⟨⟨by omega,by omega⟩,m-1,by omega,i+1,v,by omega,by rw [c0,C_ hk,hxs,append_assoc,append_assoc,append_assoc];rfl⟩
 · have hlt:((i:Int)<(l.length:Int))=False:=eq_false (by omega)
   have oB:=abh objs
   have oF:=acv hO
   have hxl:(BG++jB (l.take i)).length≤4+3*i:=by
    have h1:=sF (l.take i)
    have h2:(l.take i).length≤i:=List.length_take_le i l
    have h3:BG.length=4:=rfl
    rw [length_append];omega
   have hi:i=l.length:=by omega
   rw [hi,take_length]
   rw [hi,take_length] at hxl
   generalize hX:BG++jB l=X at hxl
   have hlt2:((l.length:Int)<(l.length:Int))=False:=eq_false (by omega)
   simp(maxSteps:=400000)only[↓aS,aT,BEq.rfl,reduceIte,reduceCtorEq,Nat.reduceLT,reduceAdd,reduceSub,reduceMul,Nat.reduceBEq,reduceLeDiff,reduceToNat,reduceLE,hlt2,oB,bA,bB,Ew,Mq,append_assoc,cons_append,nil_append,length_append,length_cons,length_nil,length_map,uT,Ps]
   refine ⟨by omega,by omega,?_⟩
   refine aA (fun m S=>∃ (i ver:Nat),i+m=l.length∧S=⟨dh 90 [(0,.D9 y),(3,.aY objs.length ver),(58,bV l),(59,.int .i64 l.length),(60,.int .i64 i)],objs++[sD (X++⟨4,0,[],[],false,0⟩::lg (l.take i)) ver]⟩) l.length ⟨0,ver+1,by omega,?_⟩ ?_
   · simp only [bJ,keepR,reduceAdd,kU,Nat.reduceBEq,map_nil]
     rfl
   rintro m S ⟨i,ver,him,rfl⟩
   have VF:(X++⟨4,0,[],[],false,0⟩::lg (l.take i)).length≤8+3*l.length+2*i:=by
    have h1:=xC (l.take i)
    have h2:(l.take i).length≤i:=List.length_take_le i l
    rw [length_append,length_cons];omega
   rcases lt_or_ge i l.length with h | h
   · have hlt:((i:Int)<(l.length:Int))=True:=eq_true (by omega)
     have zi:(0≤(i:Int))=True:=eq_true (by omega)
     have hgi:=List.getElem?_eq_getElem h
     generalize l[i]=a at hgi
     have has:=hs a (List.mem_of_getElem? hgi)
     have c0:X++⟨4,0,[],[],false,0⟩::lg (l.take (i+1))=(X++⟨4,0,[],[],false,0⟩::lg (l.take i))++BF a:=by rw [G8 hgi];simp
     generalize hY:X++⟨4,0,[],[],false,0⟩::lg (l.take i)=Y at VF c0
     by_cases hk:a.c.kind=4
     rotate_left 1
     · have k4:(a.c.kind=4)=False:=eq_false hk
       simp(maxSteps:=400000)only[↓aS,aT,BEq.rfl,reduceIte,reduceCtorEq,Nat.reduceLT,reduceAdd,reduceSub,reduceMul,Nat.reduceBEq,reduceLeDiff,reduceToNat,reduceLE,hlt,zi,hgi,k4,oB,TD,bA,bB,Ew,Mq,append_assoc,cons_append,nil_append,length_append,length_cons,length_nil,length_map,uT,aav,Ps]
       refine aR _ (Weak.freeze 1 (objs.length+1) (le_succ _) _) ?_
       simp(maxSteps:=400000)only[↓aS,aT,BEq.rfl,reduceIte,reduceCtorEq,Nat.reduceLT,reduceAdd,reduceSub,reduceMul,Nat.reduceBEq,reduceLeDiff,reduceToNat,reduceLE,oF]
       have e1:BF a=[]:=if_neg hk
       exact ⟨⟨by omega,by omega⟩,m-1,by omega,i+1,ver,by omega,by rw [c0,e1,append_nil];rfl⟩
     · have k4:(a.c.kind=4)=True:=eq_true hk
       simp(maxSteps:=400000)only[↓aS,aT,BEq.rfl,reduceIte,reduceCtorEq,Nat.reduceLT,reduceAdd,reduceSub,reduceMul,Nat.reduceBEq,reduceLeDiff,reduceToNat,reduceLE,hlt,zi,hgi,k4,oB,TD,bA,bB,Ew,Mq,append_assoc,cons_append,nil_append,length_append,length_cons,length_nil,length_map,uT,aav,Ps]
       refine ⟨by omega,fun y hy=>by simp only [List.mem_cons,List.not_mem_nil,or_false] at hy;rcases hy with rfl | rfl <;> exact ⟨rfl,rfl⟩,by omega,by omega,?_⟩
       refine aR _ (Weak.freeze 1 (objs.length+1) (le_succ _) _) ?_
       simp(maxSteps:=400000)only[↓aS,aT,BEq.rfl,reduceIte,reduceCtorEq,Nat.reduceLT,reduceAdd,reduceSub,reduceMul,Nat.reduceBEq,reduceLeDiff,reduceToNat,reduceLE,oF]
       have e1:BF a=[a.c,⟨4,0,[],a.c.s++[0],false,0⟩]:=if_pos hk
       exact ⟨⟨by omega,by omega⟩,m-1,by omega,i+1,ver+1,by omega,by rw [c0,e1];rfl⟩
   have hi:i=l.length:=by omega
   have hlt2:((l.length:Int)<(l.length:Int))=False:=eq_false (by omega)
   rw [hi,take_length]
   rw [hi,take_length] at VF
   have hC:X++⟨4,0,[],[],false,0⟩::lg l=gH l:=by rw [← hX];rfl
   rw [hC]
   rw [hC] at VF
   generalize gH l=C at VF
   simp(maxSteps:=400000)only[↓aS,aT,BEq.rfl,reduceIte,reduceCtorEq,Nat.reduceLT,reduceAdd,reduceSub,reduceMul,Nat.reduceBEq,reduceLeDiff,reduceToNat,reduceLE,hlt2]
   refine aR _ (Weak.freeze 1 objs.length (Nat.le_refl _) _) ?_
   have o1:=aaw hO
   simp(maxSteps:=400000)only[↓aS,aT,BEq.rfl,reduceIte,reduceCtorEq,Nat.reduceLT,reduceAdd,reduceSub,reduceMul,Nat.reduceBEq,reduceLeDiff,reduceToNat,reduceLE,o1]
   refine aA (fun m S=>∃ (i:Nat) (O:List Obj),i+m=C.length∧I i O∧S=⟨dh 90 [(0,.D9 y),(79,aD C),(80,.int .i64 C.length),(81,.int .i64 i)],O⟩) C.length ⟨0,objs,by omega,hI,?_⟩ ?_
   · simp only [bJ,keepR,reduceAdd,kU,Nat.reduceBEq,map_nil]
     rfl
   rintro m S ⟨i,O,him,hIi,rfl⟩
   have hOl:=(Hw i O hIi).1
   have hOO:=(Hw i O hIi).2
   rcases lt_or_ge i C.length with h | h
   · have hlt:((i:Int)<(C.length:Int))=True:=eq_true (by omega)
     have zi:(0≤(i:Int))=True:=eq_true (by omega)
     have hgi:=List.getElem?_eq_getElem h
     generalize C[i]=c at hgi
     have oB:=abh O
     simp(maxSteps:=400000)only[↓aS,aT,BEq.rfl,reduceIte,reduceCtorEq,Nat.reduceLT,reduceAdd,reduceSub,reduceMul,Nat.reduceBEq,reduceLeDiff,reduceToNat,reduceLE,hlt,zi,hgi,oB,bA,bB,Ew]
     refine aR _ (Weak.freeze 1 O.length hOl _) ?_
     have o2:=acw hOO
     simp(maxSteps:=400000)only[↓aS,aT,BEq.rfl,reduceIte,reduceCtorEq,Nat.reduceLT,reduceAdd,reduceSub,reduceMul,Nat.reduceBEq,reduceLeDiff,reduceToNat,reduceLE,o2,VP]
     refine ⟨rfl,i,hIi,by rw [hgi];rfl,fun O' hI'=>⟨⟨by omega,by omega⟩,m-1,by omega,i+1,O',by omega,hI',rfl⟩,fun O' hJ'=>⟨.inr rfl,.inr ⟨i,h,hJ'⟩⟩⟩
   · have hlt:((i:Int)<(C.length:Int))=False:=eq_false (by omega)
     simp(maxSteps:=400000)only[↓aS,aT,BEq.rfl,reduceIte,reduceCtorEq,Nat.reduceLT,reduceAdd,reduceSub,reduceMul,Nat.reduceBEq,reduceLeDiff,reduceToNat,reduceLE,hlt]
     have hi:i=C.length:=by omega
     subst hi
     exact ⟨.inl rfl,.inl hIi⟩
end Lp
namespace Lp
open Go Go.Proofs Go.RowKit
open List (mem_cons mem_singleton not_mem_nil)
open Nat (reduceAdd reduceLeDiff reduceMul reduceSub)
open Int (reduceLE reduceToNat)
def BH:dN:=fun args objs K=>match args with
 | [a0]=>gZ bV a0 (HK.mk:HK fun l=>K (.fn 74 [] [.addr (bV l)]) objs 0)
 | _=>False
theorem Pt:aF Tryz.prog 50 (BH):=by
 intro args objs K h
 unfold BH at h
 split at h
 · rename_i a0
   obtain ⟨l,rfl,hk⟩:=h
   exact ⟨_,_,_,.pure _ rfl (Ev l),hk⟩
 · exact h.elim
def BI:dN:=fun args objs K=>match args with
 | [.int .i64 mask,a1,a2]=>gZ bV a1 (HK.mk:HK fun l=>gZ au a2 (HK.mk:HK fun n=>(0≤mask∧mask≤31)∧(l.length≤1000000)∧(∀ a ∈ l,fB a.c)∧(si n)∧(n.s.length≤1000000)∧K (.bool (dx mask l n)) objs 0))
 | _=>False
theorem R_:aF Tryz.prog 51 (BI):=by
 intro args objs K h
 unfold BI at h
 split at h
 · rename_i mask a1 a2
   obtain ⟨l,rfl,n,rfl,h1,h2,h3,h4,h5,hk⟩:=h
   exact ⟨_,_,_,.pure _ rfl (LX mask l n h1 h2 h3 h4 h5),hk⟩
 · exact h.elim
def X5 (mask:Int) (l:List lJ) (x:Nd) (b:Bool):List Obj:=[⟨3,1,[.int .i64 mask],true,1⟩,⟨54,1,[bV l],true,1⟩,⟨42,6,[au x],true,1⟩,⟨4,1,[.bool b],true,1⟩]
theorem G9 (mask:Int) (l:List lJ) (x:Nd) (b:Bool):eU (X5 mask l x b++[BR,hole]):=by
 intro o ho y hy c hc
 simp only [X5,List.cons_append,List.nil_append,mem_cons,not_mem_nil,or_false] at ho
 rcases ho with rfl | rfl | rfl | rfl | rfl | rfl
 · simp only [mem_singleton] at hy;subst hy
   simp only [PV.cells,mem_singleton] at hc;subst hc;rfl
 · simp only [mem_singleton] at hy;subst hy
   simp only [bV,PV.cells,mem_singleton] at hc;subst hc;rfl
 · simp only [mem_singleton] at hy;subst hy
   simp only [au,PV.cells,mem_cons,not_mem_nil,or_false] at hc
   rcases hc with rfl | rfl | rfl | rfl | rfl | rfl <;> rfl
 · simp only [mem_singleton] at hy;subst hy
   simp only [PV.cells,mem_singleton] at hc;subst hc;rfl
 · cases hy
 · cases hy
theorem X6 (mask:Int) (l:List lJ) (x:Nd) (b:Bool):Gh 4 (X5 mask l x b++[BR,hole]):=⟨Nat.le_refl _,(G9 mask l x b).lt,rfl,rfl⟩
def kW (mask:Int) (l:List lJ):PV:=.bU [au (nZ mask l).1,.bool (nZ mask l).2]
theorem Sb (l:List Nd):∀ y ∈ l.map (fun s=>[au s]),y.length=1:=by
 intro y hy
 obtain ⟨p,_,rfl⟩:=List.mem_map.1 hy
 rfl
theorem Sc {l:List Nd}{i:Nat}{args:List PV}(h:(l.map fun s=>[au s])[i]?=some args):∃ s,l[i]?=some s∧args=[au s]:=by
 rw [List.getElem?_map] at h
 cases hx:l[i]? with
 | none=>rw [hx] at h;simp at h
 | some p=>rw [hx] at h;exact ⟨p,rfl,by simpa using h.symm⟩
theorem J9 {mask:Int}{l:List lJ}{i:Nat}{c:Nd}(h:(gH l)[i]?=some c) (hm:dx mask l c=true) (hb:∀ (j:Nat) d,j<i→(gH l)[j]?=some d→dx mask l d=false):nZ mask l=(c,true):=by
 have:(gH l).find? (fun n=>dx mask l n)=some c:=by
  rw [List.find?_eq_some_iff_getElem]
  obtain ⟨hi,he⟩:=List.getElem?_eq_some_iff.1 h
  refine ⟨hm,i,hi,he,fun j hj=>?_⟩
  have:=hb j _ hj (List.getElem?_eq_getElem (by omega))
  simp [this]
 simp [nZ,this]
theorem G_ {mask:Int}{l:List lJ}(hb:∀ (j:Nat) d,(gH l)[j]?=some d→dx mask l d=false):nZ mask l=(aM,false):=by
 have:(gH l).find? (fun n=>dx mask l n)=none:=by
  rw [List.find?_eq_none]
  intro x hx
  obtain ⟨i,hi⟩:=List.mem_iff_getElem?.1 hx
  simp [hb i x hi]
 simp [nZ,this]
theorem Pv (mask:Int) (l:List lJ) (x:Nd) (b:Bool) (o:Obj) (tm:List PV):(St.norm [] (some (1,6)) ⟨tm,X5 mask l x b++[BR,hole,o]⟩).objs=X5 mask l x b++[BR,hole]:=
 EJ (objs:=X5 mask l x b++[BR,hole]) (G9 mask l x b).lt
theorem fB.num {n:Nd}(h:fB n) (hk:n.kind=3):Mg n:=by
 have hb:=(nS n).1 (pY (nI h.sc).1 hk)
 refine ⟨hb.2.2.1,hb.2.1,hb.2.2.2.1,hb.2.2.2.2.1,fun hs=>?_⟩
 have hl:=hb.2.2.2.2.2.2
 rw [if_neg hs] at hl
 unfold Lib.trimRightB
 have hne:n.s.reverse≠[]:=by simpa using hs
 obtain ⟨x,r,hx⟩:=List.exists_cons_of_ne_nil hne
 have hx0:x≠48:=fun e=>hl.2 (by rw [← List.head?_reverse,hx,e];rfl)
 have:(x==(48:UInt8))=false:=by simpa using hx0
 rw [hx,List.dropWhile_cons,this]
 simp
theorem Sd (neg:Bool) (f:List UInt8) (e:Int):(dO neg f e).1.name=[]:=by
 unfold dO
 split
 · rfl
 split
 · rfl
 split
 · rfl
 split <;> rfl
theorem Mr (n:Nd) (b:Bool):(dm n b).1.s.length≤100∧(dm n b).1.name=[]:=by
 unfold dm
 split
 · exact ⟨by simp,rfl⟩
 · exact ⟨Vx _ _ _,Sd _ _ _⟩
theorem He {l:List lJ}(hc:∀ a ∈ l,fB a.c) (hs:∀ a ∈ l,a.c.s.length≤500000):∀ c ∈ gH l,si c∧c.s.length≤500001:=by
 have key:∀ c:Nd,c.name=[]→c.s.length≤500001→si c∧c.s.length≤500001:=fun c h1 h2=>⟨⟨by omega,by rw [h1];simp⟩,h2⟩
 intro c hcm
 simp only [gH,List.mem_append,mem_cons,not_mem_nil,or_false,uD,uE,List.mem_flatten,List.mem_map] at hcm
 rcases hcm with ((rfl | rfl | rfl | rfl) | ⟨x,⟨a,ha,rfl⟩,hx⟩) | rfl | ⟨x,⟨a,ha,rfl⟩,hx⟩
 · exact key _ rfl (by simp)
 · exact key _ rfl (by simp)
 · exact key _ rfl (by simp)
 · exact key _ rfl (by simp)
 · by_cases hk:a.c.kind=3
   · rw [C_ hk] at hx
     simp only [List.mem_append,mem_cons,not_mem_nil,or_false] at hx
     have hb:∀ b,c ∈ E5 a b→si c∧c.s.length≤500001:=fun b hb=>by
      unfold E5 at hb
      split at hb
      · rw [mem_singleton] at hb;subst hb
        have:=Mr a.c b
        exact key _ this.2 (by omega)
      · cases hb
     rcases hx with (rfl | hx) | hx
     · exact key _ (nI (hc a ha).sc).2.1 (by have:=hs a ha;omega)
     · exact hb _ hx
     · exact hb _ hx
   · rw [show BD a=[] from if_neg hk] at hx;cases hx
 · exact key _ rfl (by simp)
 · by_cases hk:a.c.kind=4
   · rw [show BF a=[a.c,⟨4,0,[],a.c.s++[0],false,0⟩] from if_pos hk] at hx
     have hsa:=hs a ha
     simp only [mem_cons,not_mem_nil,or_false] at hx
     rcases hx with rfl | rfl
     · exact key _ (nI (hc a ha).sc).2.1 (by omega)
     · exact key _ rfl (by simp;omega)
   · rw [show BF a=[] from if_neg hk] at hx;cases hx
theorem Sg (mask:Int) (l:List lJ) (hm:0≤mask∧mask≤31) (hl:l.length≤1000000) (hc:∀ a ∈ l,fB a.c) (hs:∀ a ∈ l,a.c.s.length≤500000):ah Tryz.prog 27 [.int .i64 mask,bV l] [] (kW mask l) []:=by
 refine KS.aa_ (T:=aQ Tryz.prog [(50,BH),(51,BI)]) 1 hD (aj (af Pt (af R_ ai))) aV (by decide) (by decide) fun Q hQ=>?_
 have hgv:=R9 l hl (fun a ha hk=>(hc a ha).num hk) (fun a ha=>by have:=hs a ha;omega)
 (conv=>arg 4;cbv);simp(maxSteps:=400000)only[↓aS,aT,BEq.rfl,reduceIte,reduceCtorEq,Nat.reduceLT,reduceAdd,reduceSub,reduceMul,Nat.reduceBEq,reduceLeDiff,reduceToNat,reduceLE,hQ,↓BH,bA,bB]
 refine YX 74 [.addr (bV l)] ((gH l).map fun c=>[au c])
  (fun i O=>(∀ (j:Nat) d,j<i→(gH l)[j]?=some d→dx mask l d=false)∧i≤(gH l).length∧O=X5 mask l ⟨0,0,[],[],false,0⟩ false++[BR,hole])
  (fun i O=>∃ c,(gH l)[i]?=some c∧dx mask l c=true∧(∀ (j:Nat) d,j<i→(gH l)[j]?=some d→dx mask l d=false)∧O=X5 mask l c true++[BR,hole]) .ret rfl rfl rfl rfl (Nat.le_refl _) hgv (Sb _) ⟨fun j q h=>absurd h (Nat.not_lt_zero j),Nat.zero_le _,rfl⟩ ?_ ?_ ?_ ?_ ?_
 · rintro i O ⟨_,_,rfl⟩
   exact X6 _ _ _ _
 · rintro i O ⟨c,_,_,_,rfl⟩
   exact ⟨X6 _ _ _ _,G9 _ _ _ _⟩
 · rintro i args O ⟨hb,hi,rfl⟩ ha
   obtain ⟨c,hci,rfl⟩:=Sc ha
   have hil:=(List.getElem?_eq_some_iff.1 hci).1
   unfold X5
   have hsm:=He hc hs c (List.mem_of_getElem? hci)
   cases he:dx mask l c
   · simp(maxSteps:=400000)only[↓aS,aT,BEq.rfl,reduceIte,reduceCtorEq,Nat.reduceLT,reduceAdd,reduceSub,reduceMul,Nat.reduceBEq,reduceLeDiff,reduceToNat,reduceLE,hQ,qo,knI,bA,bB,Ew,↓BI,he]
     refine ⟨hm,hl,hc,hsm.1,by omega,fun j d hj hd=>?_,by omega,Pv mask l ⟨0,0,[],[],false,0⟩ false _ _⟩
     rcases Nat.lt_or_ge j i with g | g
     · exact hb j d g hd
     · have:j=i:=by omega
       subst this
       rw [hci] at hd;cases hd;exact he
   · simp(maxSteps:=400000)only[↓aS,aT,BEq.rfl,reduceIte,reduceCtorEq,Nat.reduceLT,reduceAdd,reduceSub,reduceMul,Nat.reduceBEq,reduceLeDiff,reduceToNat,reduceLE,hQ,qo,knI,bA,bB,Ew,↓BI,he]
     exact ⟨hm,hl,hc,hsm.1,by omega,rfl,c,hci,he,hb,Pv mask l c true _ _⟩
 · rintro O ⟨hb,hi,rfl⟩
   unfold X5
   simp(maxSteps:=400000)only[↓aS,aT,BEq.rfl,reduceIte,reduceCtorEq,Nat.reduceLT,reduceAdd,reduceSub,reduceMul,Nat.reduceBEq,reduceLeDiff,reduceToNat,reduceLE,hQ,bA,bB]
   have hr:kW mask l=.bU [au aM,.bool false]:=by
    have:=G_ (mask:=mask) (l:=l) fun j d hd=>hb j d (by rw [List.length_map];exact (List.getElem?_eq_some_iff.1 hd).1) hd
    simp [kW,this]
   exact ⟨by decide,rfl,by rw [hr];rfl⟩
 · rintro i O hi ⟨c,hci,he,hb,rfl⟩
   unfold X5
   simp(maxSteps:=400000)only[↓aS,aT,BEq.rfl,reduceIte,reduceCtorEq,Nat.reduceLT,reduceAdd,reduceSub,reduceMul,Nat.reduceBEq,reduceLeDiff,reduceToNat,reduceLE,hQ,bA,bB]
   have hr:kW mask l=.bU [au c,.bool true]:=by
    simp [kW,J9 hci he hb]
   rw [hr]
   exact ⟨_,_,rfl,rfl,rfl,rfl,Nat.le_refl _,rfl,_,_,rfl,rfl,rfl,rfl,Nat.le_refl _,rfl,rfl⟩
def BJ:dN:=fun args objs K=>match args with
 | [.int .i64 mask,a1]=>gZ bV a1 (HK.mk:HK fun l=>(0≤mask∧mask≤31)∧(l.length≤1000000)∧(∀ a ∈ l,fB a.c)∧(∀ a ∈ l,a.c.s.length≤500000)∧K (kW mask l) objs 0)
 | _=>False
theorem Pw:aF Tryz.prog 27 (BJ):=by
 intro args objs K h
 unfold BJ at h
 split at h
 · rename_i mask a1
   obtain ⟨l,rfl,h1,h2,h3,h4,hk⟩:=h
   exact ⟨_,_,_,.pure _ rfl (Sg mask l h1 h2 h3 h4),hk⟩
 · exact h.elim
end Lp
namespace Lp
open Go Go.Proofs Go.RowKit
open List (append_assoc append_nil getElem_mem length_append length_cons length_nil map_nil take_succ_cons take_zero)
open Nat (lt_or_ge reduceAdd reduceLeDiff reduceMul reduceSub)
open Int (reduceLE reduceToNat)
theorem VG {neg:Bool}{f:List UInt8}{e:Int}(h:¬ (dO neg f e).2=0):(dO neg f e).1=aM:=by
 unfold dO at h ⊢
 split
 · rfl
 · rename_i h1
   rw [if_neg h1] at h
   split
   · rename_i h2;rw [if_pos h2] at h;exact absurd rfl h
   · rename_i h2
     rw [if_neg h2] at h
     split
     · rfl
     · rename_i h3
       rw [if_neg h3] at h
       split
       · rfl
       · rename_i h4;rw [if_neg h4] at h;exact absurd rfl h
theorem Hf (n:Nd) (above:Bool) (hn:Mg n):ah Tryz.prog 87 [au n,.bool above] [] (dM n above) []:=by
 refine xV.G6 (T:=aQ Tryz.prog [(114,mq),(111,j3),(112,BB),(113,uz)]) 0 hD (aj (af Pm (af Ml (af RY (af RZ ai))))) aV (by decide) (by decide) fun Q hQ=>?_
 by_cases hs:n.s=[]
 · have hr:dM n above=.bU [au ⟨3,0,[],[49],!above,-1000⟩,.bool true]:=by simp [dM,dm,hs]
   (conv=>arg 4;cbv);simp(maxSteps:=400000)only[↓aS,aT,BEq.rfl,reduceIte,reduceCtorEq,Nat.reduceLT,reduceAdd,reduceSub,reduceMul,Nat.reduceBEq,reduceLeDiff,reduceToNat,reduceLE,hQ,hs,hr,bA,bB]
   repeat' (first | omega | exact rfl | refine ⟨?_,?_⟩)
 have hs':(n.s=[])=False:=eq_false hs
 have l1:=hn.len
 have l2:=hn.lo
 have l3:=hn.hi
 have hE:∀ T:Int,jA n above=max (T-100) (-1000)→(if (-1000:Int) > T-100 then (-1000:Int) else T-100)=jA n above:=fun T h=>by rw [h];split <;> omega
 have l4:(0:Int)<n.s.length:=by
  cases h:n.s with
  | nil=>exact absurd h hs
  | cons x r=>simp
 have hEb:-1000≤jA n above∧jA n above≤1000∧jA n above≤n.e:=by
  unfold jA
  split <;> omega
 generalize SX:jA n above=E at *
 have Eu:lK n E=n.s++List.replicate (n.e-E).toNat 48:=rfl
 have hpl:(lK n E).length≤3000:=by rw [Eu,length_append,List.length_replicate];omega
 have hpf:fM (lK n E)=true:=DX _ _ hn.fM (Pj _)
 have hpt:0<(Lib.trimRightB (lK n E) 48).length:=by rw [Eu,J6];exact hn.last hs
 have hul:=VE (lK n E)
 have hdl:=J7 (lK n E)
 have fin:∀ X:List UInt8,dM n above=.bU [au (dO n.neg X E).1,.bool (decide ((dO n.neg X E).2=0))]→(¬ (dO n.neg X E).2=0→dM n above=.bU [au ⟨0,0,[],[],false,0⟩,.bool false])∧((dO n.neg X E).2=0→dM n above=.bU [au (dO n.neg X E).1,.bool true]):=fun X h=>
  ⟨fun g=>by rw [h,VG g,decide_eq_false g];rfl,fun g=>by rw [h,decide_eq_true g]⟩
 by_cases hg:n.neg=above
 · have hg':(n.neg=above)=True:=eq_true hg
   have hr:dM n above=.bU [au (dO n.neg (nJ (lK n E)) E).1,.bool (decide ((dO n.neg (nJ (lK n E)) E).2=0))]:=by
    simp only [dM,dm,if_neg hs,if_pos hg,SX]
   obtain ⟨f1,f2⟩:=fin _ hr
   generalize hX:nJ (lK n E)=X at *
   by_cases h49:n.s=[49]
   · have Mh:(n.s=[49])=True:=eq_true h49
     have hEe:=hE (n.s.length+n.e-1) (by rw [← SX];unfold jA;rw [if_pos ⟨hg,h49⟩])
     by_cases hM:(dO n.neg X E).2=0
     · have hM':=eq_true hM
       have hr2:=f2 hM
       (conv=>arg 4;cbv);simp(maxSteps:=400000)only[↓aS,aT,BEq.rfl,reduceIte,reduceCtorEq,Nat.reduceLT,reduceAdd,reduceSub,reduceMul,Nat.reduceBEq,reduceLeDiff,reduceToNat,reduceLE,hQ,↓mq,↓j3,↓uz,hs',hg',Mh,bA,bB,bG,uP,uQ,fV,hEe,hX,dU,hM',hr2]
       repeat' (first | omega | exact hpf | exact hpt | exact rfl | refine ⟨?_,?_⟩)
     · have hM':=eq_false hM
       have hr2:=f1 hM
       (conv=>arg 4;cbv);simp(maxSteps:=400000)only[↓aS,aT,BEq.rfl,reduceIte,reduceCtorEq,Nat.reduceLT,reduceAdd,reduceSub,reduceMul,Nat.reduceBEq,reduceLeDiff,reduceToNat,reduceLE,hQ,↓mq,↓j3,↓uz,hs',hg',Mh,bA,bB,bG,uP,uQ,fV,hEe,hX,dU,hM',hr2]
       repeat' (first | omega | exact hpf | exact hpt | exact rfl | refine ⟨?_,?_⟩)
   · have Mh:(n.s=[49])=False:=eq_false h49
     have hEe:=hE (n.s.length+n.e) (by rw [← SX];unfold jA;rw [if_neg fun h=>h49 h.2])
     by_cases hM:(dO n.neg X E).2=0
     · have hM':=eq_true hM
       have hr2:=f2 hM
       (conv=>arg 4;cbv);simp(maxSteps:=400000)only[↓aS,aT,BEq.rfl,reduceIte,reduceCtorEq,Nat.reduceLT,reduceAdd,reduceSub,reduceMul,Nat.reduceBEq,reduceLeDiff,reduceToNat,reduceLE,hQ,↓mq,↓j3,↓uz,hs',hg',Mh,bA,bB,bG,uP,uQ,fV,hEe,hX,dU,hM',hr2]
       repeat' (first | omega | exact hpf | exact hpt | exact rfl | refine ⟨?_,?_⟩)
     · have hM':=eq_false hM
       have hr2:=f1 hM
       (conv=>arg 4;cbv);simp(maxSteps:=400000)only[↓aS,aT,BEq.rfl,reduceIte,reduceCtorEq,Nat.reduceLT,reduceAdd,reduceSub,reduceMul,Nat.reduceBEq,reduceLeDiff,reduceToNat,reduceLE,hQ,↓mq,↓j3,↓uz,hs',hg',Mh,bA,bB,bG,uP,uQ,fV,hEe,hX,dU,hM',hr2]
       repeat' (first | omega | exact hpf | exact hpt | exact rfl | refine ⟨?_,?_⟩)
 · have hg':(n.neg=above)=False:=eq_false hg
   have hr:dM n above=.bU [au (dO n.neg (qJ (lK n E)) E).1,.bool (decide ((dO n.neg (qJ (lK n E)) E).2=0))]:=by
    rw [R8]
    simp only [dM,dm,if_neg hs,if_neg hg,SX]
   obtain ⟨f1,f2⟩:=fin _ hr
   have hEe:=hE (n.s.length+n.e) (by rw [← SX];unfold jA;rw [if_neg fun h=>hg h.1])
   generalize hX:qJ (lK n E)=X at *
   by_cases hM:(dO n.neg X E).2=0
   · have hM':=eq_true hM
     have hr2:=f2 hM
     (conv=>arg 4;cbv);simp(maxSteps:=400000)only[↓aS,aT,BEq.rfl,reduceIte,reduceCtorEq,Nat.reduceLT,reduceAdd,reduceSub,reduceMul,Nat.reduceBEq,reduceLeDiff,reduceToNat,reduceLE,hQ,↓mq,↓j3,↓BB,hs',hg',bA,bB,bG,uP,uQ,fV,hEe,hX,dU,hM',hr2]
     repeat' (first | omega | exact hpf | exact hpt | exact rfl | refine ⟨?_,?_⟩)
   · have hM':=eq_false hM
     have hr2:=f1 hM
     (conv=>arg 4;cbv);simp(maxSteps:=400000)only[↓aS,aT,BEq.rfl,reduceIte,reduceCtorEq,Nat.reduceLT,reduceAdd,reduceSub,reduceMul,Nat.reduceBEq,reduceLeDiff,reduceToNat,reduceLE,hQ,↓mq,↓j3,↓BB,hs',hg',bA,bB,bG,uP,uQ,fV,hEe,hX,dU,hM',hr2]
     repeat' (first | omega | exact hpf | exact hpt | exact rfl | refine ⟨?_,?_⟩)
def kX:dN:=fun args objs K=>match args with
 | [a0,.bool above]=>gZ au a0 (HK.mk:HK fun n=>(Mg n)∧K (dM n above) objs 0)
 | _=>False
theorem I_:aF Tryz.prog 87 (kX):=by
 intro args objs K h
 unfold kX at h
 split at h
 · rename_i a0 above
   obtain ⟨n,rfl,h1,hk⟩:=h
   exact ⟨_,_,_,.pure _ rfl (Hf n above h1),hk⟩
 · exact h.elim
theorem TF (objs:List Obj) (K:KT):(∀ k,bD D 42 [(0,.int .i64 k)] objs K=K (au ⟨k,0,[],[],false,0⟩) objs 0)∧(∀ k s,bD D 42 [(0,.int .i64 k),(3,.str s)] objs K=K (au ⟨k,0,[],s,false,0⟩) objs 0):=by
 have z:aK (D 42)=au ⟨0,0,[],[],false,0⟩:=by kernel_rfl
 have a:(D 42).agg=true:=by kernel_rfl
 simp only [bR] at z a
 refine ⟨fun k=>?_,fun k s=>?_⟩
 all_goals
  simp [bD,mP,a,z,bR,nO,au,PV.isAgg,sU,PV.cells,PV.storable,PV.mH,PV.pure]
def Ey:List Nd:=[⟨0,0,[],[],false,0⟩,⟨1,0,[],[],false,0⟩,⟨2,0,[],[],false,0⟩,⟨3,0,[],[],false,0⟩]
theorem Si (v:Vl) (ver:Nat) (t:TypeId) (rest:List Obj):eP 1 0 (⟨t,6,v.map au,true,ver⟩::rest) (.aY 0 ver)=aD v:=wV v ver t rest
theorem xb {n i:Nat}(h:n≤1000000) (hi:i≤1000000):((n+1)*64≤140737488355328∧n≤9223372036854775806)∧((n+1+1)*64≤140737488355328∧n≤9223372036854775805)∧
  ((n+1+1+1)*64≤140737488355328∧n≤9223372036854775804)∧(-9223372036854775808≤(i:Int)+1∧(i:Int)+1≤9223372036854775807):=by omega
theorem Ms (l:List lJ) (hl:l.length≤100000) (hn:∀ a ∈ l,a.c.kind=3→Mg a.c) (hs:∀ a ∈ l,a.c.s.length≤1000000000):ah Tryz.prog 60 [bV l] [] (aD (gH l)) []:=by
 refine sw.bg (T:=aQ Tryz.prog [(87,kX)]) 1 hD (aj (af I_ ai)) aV (by decide) fun Q hQ=>?_
 (conv=>arg 4;cbv);simp(maxSteps:=400000)only[↓aS,aT,BEq.rfl,reduceIte,reduceCtorEq,Nat.reduceLT,reduceAdd,reduceSub,reduceMul,Nat.reduceBEq,reduceLeDiff,reduceToNat,reduceLE,hQ,TF,uP,uQ]
 refine aA (fun m S=>∃ i ver:Nat,i+m=l.length∧S=⟨dh 98 [(0,bV l),(3,.aY 0 ver),(4,.int .i64 i)],[⟨42,6,(Ey++jB (l.take i)).map au,true,ver⟩]⟩) l.length ⟨0,1,by omega,?_⟩ ?_ (hz:=Nat.zero_le _)
 · simp only [bJ,keepR,reduceAdd,kU,Nat.reduceBEq,map_nil]
   rfl
 rintro m S ⟨i,ver,him,rfl⟩
 have zi:(0≤(i:Int))=True:=eq_true (by omega)
 have hcl:=sF (l.take i)
 rw [List.length_take] at hcl
 rcases lt_or_ge i l.length with h | h
 · have hlt:((i:Int)<(l.length:Int))=True:=eq_true (by omega)
   have hgi:=List.getElem?_eq_getElem h
   have hni:=hn _ (getElem_mem h)
   generalize l[i]=a at hgi hni
   have htk:=G7 hgi
   have hA:∀ (A B:List Nd),A.map au++B.map au=(A++B).map au:=fun A B=>by rw [List.map_append]
   by_cases hk:a.c.kind=3
   rotate_left 1
   · have hk':=eq_false hk
     have e1:BD a=[]:=if_neg hk
     rw [e1,append_nil] at htk
     simp(maxSteps:=400000)only[↓aS,aT,BEq.rfl,reduceIte,reduceCtorEq,Nat.reduceLT,reduceAdd,reduceSub,reduceMul,Nat.reduceBEq,reduceLeDiff,reduceToNat,reduceLE,hQ,hlt,zi,hgi,hk',RB,take_succ_cons,take_zero,gM]
     exact ⟨⟨by omega,by omega⟩,m-1,by omega,i+1,ver,by omega,by rw [htk,Int.natCast_add,Int.natCast_one]⟩
   have hk':=eq_true hk
   have hnr:=hni hk
   have e1:=C_ hk
   generalize hX:Ey++jB (l.take i)=X at *
   have hXl:X.length≤1000000:=by rw [← hX,length_append];have:Ey.length=4:=rfl;omega
   have hX':Ey++jB (l.take (i+1))=X++BD a:=by rw [htk,← append_assoc,hX]
   have s1:∀ x:Nd,X.map au++[au x]=(X++[x]).map au:=fun x=>by simp
   have fin:∀ (v:Nat) (Y:List Nd),Ey++jB (l.take (i+1))=Y→∃ m',m'<m∧∃ EQ aax:Nat,EQ+m'=l.length∧(⟨dh 98 [(0,bV l),(3,.aY 0 v),(4,.int .i64 ((i:Int)+1))],[⟨42,6,Y.map au,true,v⟩]⟩:St)=⟨dh 98 [(0,bV l),(3,.aY 0 aax),(4,.int .i64 EQ)],[⟨42,6,(Ey++jB (l.take EQ)).map au,true,aax⟩]⟩:=fun v Y hy=>
    ⟨m-1,by omega,i+1,v,by omega,by rw [hy,Int.natCast_add,Int.natCast_one]⟩
   rw [e1] at hX'
   obtain ⟨x1,x2,x3,iw⟩:=xb hXl (Nat.le_trans (Nat.le_of_lt h) (Nat.le_trans hl (by decide:100000≤1000000)))
   cases hb1:(dm a.c true).2 with
   | false=>
    cases hb2:(dm a.c false).2 with
    | false=>
     have hX2:=hX'
     simp only [E5,hb1,hb2,Bool.false_eq_true,if_true,if_false,append_nil] at hX2
     simp(maxSteps:=400000)only[↓aS,aT,BEq.rfl,reduceIte,reduceCtorEq,Nat.reduceLT,reduceAdd,reduceSub,reduceMul,Nat.reduceBEq,reduceLeDiff,reduceToNat,reduceLE,hQ,hlt,zi,hgi,hk',↓kX,dM,fV,hb1,hb2,bA,bB,bG,uP,uQ,uT,RB,take_succ_cons,take_zero,gM,length_append,length_cons,length_nil]
     exact ⟨x1.1,x1.2,hnr,hnr,iw,fin _ _ (by rw [hX2])⟩
    | true=>
     have hX2:=hX'
     simp only [E5,hb1,hb2,Bool.false_eq_true,if_true,if_false,append_nil] at hX2
     simp(maxSteps:=400000)only[↓aS,aT,BEq.rfl,reduceIte,reduceCtorEq,Nat.reduceLT,reduceAdd,reduceSub,reduceMul,Nat.reduceBEq,reduceLeDiff,reduceToNat,reduceLE,hQ,hlt,zi,hgi,hk',↓kX,dM,fV,hb1,hb2,bA,bB,bG,uP,uQ,uT,RB,take_succ_cons,take_zero,gM,length_append,length_cons,length_nil]
     exact ⟨x1.1,x1.2,hnr,hnr,x2.1,x2.2,iw,fin _ _ (by rw [hX2];simp only [append_assoc])⟩
   | true=>
    cases hb2:(dm a.c false).2 with
    | false=>
     have hX2:=hX'
     simp only [E5,hb1,hb2,Bool.false_eq_true,if_true,if_false,append_nil] at hX2
     simp(maxSteps:=400000)only[↓aS,aT,BEq.rfl,reduceIte,reduceCtorEq,Nat.reduceLT,reduceAdd,reduceSub,reduceMul,Nat.reduceBEq,reduceLeDiff,reduceToNat,reduceLE,hQ,hlt,zi,hgi,hk',↓kX,dM,fV,hb1,hb2,bA,bB,bG,uP,uQ,uT,RB,take_succ_cons,take_zero,gM,length_append,length_cons,length_nil]
     exact ⟨x1.1,x1.2,hnr,x2.1,x2.2,hnr,iw,fin _ _ (by rw [hX2];simp only [append_assoc])⟩
    | true=>
     have hX2:=hX'
     simp only [E5,hb1,hb2,Bool.false_eq_true,if_true,if_false,append_nil] at hX2
     simp(maxSteps:=400000)only[↓aS,aT,BEq.rfl,reduceIte,reduceCtorEq,Nat.reduceLT,reduceAdd,reduceSub,reduceMul,Nat.reduceBEq,reduceLeDiff,reduceToNat,reduceLE,hQ,hlt,zi,hgi,hk',↓kX,dM,fV,hb1,hb2,bA,bB,bG,uP,uQ,uT,RB,take_succ_cons,take_zero,gM,length_append,length_cons,length_nil]
     exact ⟨x1.1,x1.2,hnr,x2.1,x2.2,hnr,x3.1,x3.2,iw,fin _ _ (by rw [hX2];simp only [append_assoc])⟩
 have hi:i=l.length:=by omega
 subst hi
 have hlt:((l.length:Int)<(l.length:Int))=False:=eq_false (by omega)
 rw [List.take_of_length_le (Nat.le_refl _)]
 rw [List.take_of_length_le (Nat.le_refl _)] at hcl
 simp(maxSteps:=400000)only[↓aS,aT,BEq.rfl,reduceIte,reduceCtorEq,Nat.reduceLT,reduceAdd,reduceSub,reduceMul,Nat.reduceBEq,reduceLeDiff,reduceToNat,reduceLE,hQ,hlt,TF,uP,uQ]
 have hc0:Ey.length=4:=rfl
 have hY:(Ey++jB l).map au++[au ⟨4,0,[],[],false,0⟩]=(Ey++jB l++[(⟨4,0,[],[],false,0⟩:Nd)]).map au:=by simp
 rw [hY]
 refine ⟨by omega,by omega,?_⟩
 generalize hX:Ey++jB l++[(⟨4,0,[],[],false,0⟩:Nd)]=X
 have hXl:X.length≤300005:=by rw [← hX];simp [Ey];omega
 refine aA (fun m S=>∃ i ver:Nat,i+m=l.length∧S=⟨dh 98 [(0,bV l),(3,.aY 0 ver),(9,.int .i64 i)],[⟨42,6,(X++lg (l.take i)).map au,true,ver⟩]⟩) l.length ⟨0,ver+1,by omega,?_⟩ ?_
 · simp only [bJ,keepR,reduceAdd,kU,Nat.reduceBEq,map_nil]
   simp [lg]
 rintro m' S ⟨i,IU,him',rfl⟩
 have zi:(0≤(i:Int))=True:=eq_true (by omega)
 have hsl:=xC (l.take i)
 rw [List.length_take] at hsl
 rcases lt_or_ge i l.length with h' | h'
 · have hlt:((i:Int)<(l.length:Int))=True:=eq_true (by omega)
   have hgi:=List.getElem?_eq_getElem h'
   have hsi:=hs _ (getElem_mem h')
   generalize l[i]=a at hgi hsi
   have htk:=G8 hgi
   by_cases hk:a.c.kind=4
   · have hk':=eq_true hk
     have e1:BF a=[a.c,⟨4,0,[],a.c.s++[0],false,0⟩]:=if_pos hk
     simp(maxSteps:=400000)only[↓aS,aT,BEq.rfl,reduceIte,reduceCtorEq,Nat.reduceLT,reduceAdd,reduceSub,reduceMul,Nat.reduceBEq,reduceLeDiff,reduceToNat,reduceLE,hQ,hlt,zi,hgi,hk',TF,uP,uQ]
     have hrow:∀ y,y ∈ [au a.c,au ⟨4,0,[],a.c.s++[0],false,0⟩]→y.cells.length=6∧y.cells.all PV.storable=true:=fun y hy=>by
      simp only [List.mem_cons,List.not_mem_nil,or_false] at hy
      rcases hy with rfl | rfl <;> exact ⟨rfl,rfl⟩
     have hXs:X.length+(lg (l.take i)).length≤600000:=by omega
     exact ⟨by omega,hrow,by omega,by omega,rfl,⟨by omega,by omega⟩,m'-1,by omega,i+1,IU+1,by omega,by
      rw [htk,e1,← append_assoc,List.map_append (l₁:=X++lg _),Int.natCast_add,Int.natCast_one];rfl⟩
   · have hk':=eq_false hk
     have e1:BF a=[]:=if_neg hk
     rw [e1,append_nil] at htk
     simp(maxSteps:=400000)only[↓aS,aT,BEq.rfl,reduceIte,reduceCtorEq,Nat.reduceLT,reduceAdd,reduceSub,reduceMul,Nat.reduceBEq,reduceLeDiff,reduceToNat,reduceLE,hQ,hlt,zi,hgi,hk',TF,uP,uQ]
     repeat' (first | omega | exact ⟨m'-1,by omega,i+1,IU,by omega,by rw [htk];rfl⟩ | refine ⟨?_,?_⟩)
 · have hlt:((i:Int)<(l.length:Int))=False:=eq_false (by omega)
   have hr:gH l=X++lg (l.take i):=by
    rw [List.take_of_length_le h',← hX];simp [gH,Ey]
   simp(maxSteps:=400000)only[↓aS,aT,BEq.rfl,reduceIte,reduceCtorEq,Nat.reduceLT,reduceAdd,reduceSub,reduceMul,Nat.reduceBEq,reduceLeDiff,reduceToNat,reduceLE,hQ,hlt,Si,hr]
def BK:dN:=fun args objs K=>match args with
 | [a0]=>gZ bV a0 (HK.mk:HK fun l=>(l.length≤100000)∧(∀ a ∈ l,a.c.kind=3→Mg a.c)∧(∀ a ∈ l,a.c.s.length≤1000000000)∧K (aD (gH l)) objs 0)
 | _=>False
theorem Px:aF Tryz.prog 60 (BK):=by
 intro args objs K h
 unfold BK at h
 split at h
 · rename_i a0
   obtain ⟨l,rfl,h1,h2,h3,hk⟩:=h
   exact ⟨_,_,_,.pure _ rfl (Ms l h1 h2 h3),hk⟩
 · exact h.elim
def wE:dN:=fun args objs K=>match args with
 | [.int .i64 mask,a1,a2]=>gZ bV a1 (HK.mk:HK fun l=>gZ au a2 (HK.mk:HK fun n=>(0≤mask∧mask≤31)∧(l.length≤1000000)∧(∀ a ∈ l,fB a.c)∧(si n)∧(n.s.length≤1000000)∧K (.bool (dx mask l n)) objs 0))
 | _=>False
theorem Py:aF Tryz.prog 37 (wE):=by
 intro args objs K h
 unfold wE at h
 split at h
 · rename_i mask a1 a2
   obtain ⟨l,rfl,n,rfl,h1,h2,h3,h4,h5,hk⟩:=h
   exact ⟨_,_,_,.pure _ rfl (LY mask l n ⟨h1.1,by omega⟩ h2 h3 h4 h5),hk⟩
 · exact h.elim
theorem Ja (mask:Int) (l:List lJ) (hm:0≤mask∧mask≤31) (hl:l.length≤100000) (hc:∀ a ∈ l,fB a.c) (hs:∀ a ∈ l,a.c.s.length≤500000):ah Tryz.prog 32 [.int .i64 mask,bV l] [] (kW mask l) []:=by
 refine zF.G6 (T:=aQ Tryz.prog [(60,BK),(37,wE)]) 0 hD (aj (af Px (af Py ai))) aV (by decide) (by decide) fun Q hQ=>?_
 have hcs:=He hc hs
 have hnr:∀ a ∈ l,a.c.kind=3→Mg a.c:=fun a ha hk=>(hc a ha).num hk
 have hsb:∀ a ∈ l,a.c.s.length≤1000000000:=fun a ha=>by have:=hs a ha;omega
 have hcl:(gH l).length≤1000000:=by
  have h1:=sF l
  have h2:=xC l
  simp only [gH,length_append,length_cons,length_nil];omega
 (conv=>arg 4;cbv);simp(maxSteps:=400000)only[↓aS,aT,BEq.rfl,reduceIte,reduceCtorEq,Nat.reduceLT,reduceAdd,reduceSub,reduceMul,Nat.reduceBEq,reduceLeDiff,reduceToNat,reduceLE,hQ,↓BK,bA,bB]
 refine ⟨hl,hnr,hsb,?_⟩
 refine aA (fun m S=>∃ i:Nat,i+m=(gH l).length∧(∀ (j:Nat) d,j<i→(gH l)[j]?=some d→dx mask l d=false)∧S=⟨dh 28 [(0,.int .i64 mask),(1,bV l),(4,.bM 0 1 0 0),(6,aD (gH l)),(7,.int .i64 i)],[⟨42,6,[au ⟨0,0,[],[],false,0⟩],true,1⟩]⟩) (gH l).length ⟨0,by omega,fun j d h=>absurd h (Nat.not_lt_zero j),?_⟩ ?_
 · simp only [bJ,keepR,reduceAdd,kU,Nat.reduceBEq,map_nil]
   rfl
 rintro m S ⟨i,him,hb,rfl⟩
 have zi:(0≤(i:Int))=True:=eq_true (by omega)
 rcases lt_or_ge i (gH l).length with h | h
 · have hlt:((i:Int)<((gH l).length:Int))=True:=eq_true (by omega)
   have hgi:=List.getElem?_eq_getElem h
   have hsi:=hcs _ (getElem_mem h)
   generalize (gH l)[i]=c at hgi hsi
   cases hmem:dx mask l c with
   | true=>
    have hr:kW mask l=.bU [au c,.bool true]:=by simp [kW,J9 hgi hmem hb]
    simp(maxSteps:=400000)only[↓aS,aT,BEq.rfl,reduceIte,reduceCtorEq,Nat.reduceLT,reduceAdd,reduceSub,reduceMul,Nat.reduceBEq,reduceLeDiff,reduceToNat,reduceLE,hQ,hlt,zi,hgi,↓wE,hmem,bA,bB,bG,uP,uQ,hr]
    repeat' (first | omega | exact hc | exact hsi.1 | exact rfl | refine ⟨?_,?_⟩)
   | false=>
    have hb':∀ (j:Nat) d,j<i+1→(gH l)[j]?=some d→dx mask l d=false:=fun j d hj hd=>by
     rcases lt_or_ge j i with g | g
     · exact hb j d g hd
     · have:j=i:=by omega
       subst this
       rw [hgi] at hd;cases hd;exact hmem
    simp(maxSteps:=400000)only[↓aS,aT,BEq.rfl,reduceIte,reduceCtorEq,Nat.reduceLT,reduceAdd,reduceSub,reduceMul,Nat.reduceBEq,reduceLeDiff,reduceToNat,reduceLE,hQ,hlt,zi,hgi,↓wE,hmem,bA,bB,bG,uP,uQ]
    repeat' (first | omega | exact hc | exact hsi.1 | exact ⟨m-1,by omega,i+1,by omega,hb',rfl⟩ | refine ⟨?_,?_⟩)
 · have hlt:((i:Int)<((gH l).length:Int))=False:=eq_false (by omega)
   have hr:kW mask l=.bU [au ⟨0,0,[],[],false,0⟩,.bool false]:=by
    have:=G_ (mask:=mask) (l:=l) fun j d hd=>hb j d (by have:=(List.getElem?_eq_some_iff.1 hd).1;omega) hd
    simp [kW,this,aM]
   simp(maxSteps:=400000)only[↓aS,aT,BEq.rfl,reduceIte,reduceCtorEq,Nat.reduceLT,reduceAdd,reduceSub,reduceMul,Nat.reduceBEq,reduceLeDiff,reduceToNat,reduceLE,hQ,hlt,bA,bB,uP,uQ,hr]
   repeat' (first | omega | exact rfl | refine ⟨?_,?_⟩)
def sG:dN:=fun args objs K=>match args with
 | [.int .i64 mask,a1]=>gZ bV a1 (HK.mk:HK fun l=>(0≤mask∧mask≤31)∧(l.length≤100000)∧(∀ a ∈ l,fB a.c)∧(∀ a ∈ l,a.c.s.length≤500000)∧K (kW mask l) objs 0)
 | _=>False
theorem Mt:aF Tryz.prog 32 (sG):=by
 intro args objs K h
 unfold sG at h
 split at h
 · rename_i mask a1
   obtain ⟨l,rfl,h1,h2,h3,h4,hk⟩:=h
   exact ⟨_,_,_,.pure _ rfl (Ja mask l h1 h2 h3 h4),hk⟩
 · exact h.elim
end Lp
namespace Lp
open Go Go.Proofs
open Nat (reduceAdd reduceLeDiff reduceMul reduceSub)
open Int (reduceLE reduceToNat toNat_natCast)
theorem J_ {a:lJ}(h:nY a=true) (hs:a.c.s.length≤500000):fB a.c:=by
 simp only [nY,Bool.and_eq_true] at h
 exact ⟨h.2,by omega⟩
theorem Pz (t:bf) (hs:um t) (hl5:t.length≤100000) (hc:∀ n ∈ t,n.c.s.length≤500000):ah Tryz.prog 26 [aH t] [] (.bool (qI t)) []:=by
 have hl:=hs.len
 refine Bv.bg (T:=aQ Tryz.prog [(48,qc),(49,mh),(32,sG)]) 0 hD (aj (af I8 (af Es (af Mt ai)))) aV (by decide) fun Q hQ=>?_
 cases hr:fK t with
 | false=>
  have hg:qI t=false:=by simp [qI,hr]
  (conv=>arg 4;cbv);simp(maxSteps:=400000)only[↓ax,ay,BEq.rfl,reduceIte,reduceCtorEq,Nat.reduceLT,reduceAdd,reduceSub,reduceMul,Nat.reduceBEq,reduceLeDiff,reduceToNat,reduceLE,hQ,↓qc,hr,hg]
  exact hs
 | true=>
  have hrt:=J3 hr
  have ho:=hrt.one
  have hg:qI t=Y.fA HY t:=by simp [qI,hr]
  (conv=>arg 4;cbv);simp(maxSteps:=400000)only[↓ax,ay,BEq.rfl,reduceIte,reduceCtorEq,Nat.reduceLT,reduceAdd,reduceSub,reduceMul,Nat.reduceBEq,reduceLeDiff,reduceToNat,reduceLE,hQ,↓qc,hr]
  refine ⟨hs,?_⟩
  refine aA (fun m S=>∃ i:Nat,i+m=t.length∧Y.fA HY (t.drop i)=qI t∧S=⟨dh 35 [(0,aH t),(3,.int .i64 i)],[]⟩) t.length (hz:=Nat.zero_le _) ⟨0,by omega,by rw [hg];rfl,?_⟩ ?_
  · simp only [bJ,keepR,reduceAdd,kU,Nat.reduceBEq,List.map_nil]
    rfl
  rintro m S ⟨i,him,hgd,rfl⟩
  rcases Nat.lt_or_ge i t.length with h | h
  · have hgi:=List.getElem?_eq_getElem h
    have hcx:=hc _ (List.getElem_mem h)
    generalize t[i]=n at hgi hcx
    have hd:=Rz hgi
    rw [hgd] at hd
    have zi:(0≤(i:Int))=True:=eq_true (by omega)
    have hlt:((i:Int)<(t.length:Int))=True:=eq_true (by omega)
    have next:qI t=Y.fA HY (t.drop (i+1))→∃ m',m'<m∧∃ EQ:Nat,EQ+m'=t.length∧Y.fA HY (t.drop EQ)=qI t∧(⟨dh 35 [(0,aH t),(3,.int .i64 ((i:Int)+1))],[]⟩:St)=⟨dh 35 [(0,aH t),(3,.int .i64 EQ)],[]⟩:=fun e=>
     ⟨m-1,by omega,i+1,by omega,e.symm,rfl⟩
    by_cases hk:n.kind=1
    rotate_left 1
    · have hk':=eq_false hk
      have hla:xB t i=true:=by
       obtain ⟨ps,c,_,_,h3,_⟩:=Y.uh ho hgi
       have hd0:=List.drop_eq_getElem_cons h
       rw [List.getElem?_eq_getElem h] at hgi
       cases hgi
       simp only [xB,hd0,h3,HY]
       simp [hk]
      rw [hla,Bool.true_and] at hd
      have hst:=next hd
      simp(maxSteps:=400000)only[↓ax,ay,BEq.rfl,reduceIte,reduceCtorEq,Nat.reduceLT,reduceAdd,reduceSub,reduceMul,Nat.reduceBEq,reduceLeDiff,reduceToNat,reduceLE,hQ,hlt,zi,hgi,hk']
      repeat' (first | omega | exact hst | refine ⟨?_,?_⟩)
    · have hk':=eq_true hk
      obtain ⟨ps,p1,p2,p3,p4,p5,p6,p7⟩:=Ty hrt hgi hk
      have hat:nD t i=ps.flatten.map jC:=by simp only [nD,hgi,hk,if_true,p2]
      have hal:(nD t i).length≤100000:=by rw [hat,List.length_map,p2,List.length_take,List.length_drop];omega
      have hmem:∀ x ∈ ps.flatten,x ∈ t:=fun x hx=>by rw [p2] at hx;exact List.mem_of_mem_drop (List.mem_of_mem_take hx)
      have hsm:∀ a ∈ nD t i,a.c.s.length≤500000:=fun a ha=>by
       rw [hat] at ha
       obtain ⟨x,hx,rfl⟩:=List.mem_map.1 ha
       exact hc x (hmem x hx)
      have hcm:∀ a ∈ nD t i,fB a.c:=fun a ha=>by
       have hsa:=hsm a ha
       rw [hat] at ha
       obtain ⟨x,hx,rfl⟩:=List.mem_map.1 ha
       exact J_ (p7 x hx) hsa
      have hla:xB t i=(nZ n.n (nD t i)).2:=by
       have hd0:=List.drop_eq_getElem_cons h
       have hx:=hgi
       rw [List.getElem?_eq_getElem h] at hx
       cases hx
       simp only [xB,hd0,p1,HY,hat]
       simp [hk]
      rw [hla] at hd
      cases hls:(nZ n.n (nD t i)).2 with
      | false=>
       rw [hls] at hd
       have hr2:qI t=false:=by rw [hd];rfl
       simp(maxSteps:=400000)only[↓ax,ay,BEq.rfl,reduceIte,reduceCtorEq,Nat.reduceLT,reduceAdd,reduceSub,reduceMul,Nat.reduceBEq,reduceLeDiff,reduceToNat,reduceLE,hQ,hlt,zi,hgi,hk',↓mh,toNat_natCast,↓sG,kW,fV,bA,bB,uP,uQ,hls,hr2]
       repeat' (first | omega | exact hcm | exact hsm | exact ho | exact rfl | refine ⟨?_,?_⟩)
      | true=>
       rw [hls,Bool.true_and] at hd
       have hst:=next hd
       simp(maxSteps:=400000)only[↓ax,ay,BEq.rfl,reduceIte,reduceCtorEq,Nat.reduceLT,reduceAdd,reduceSub,reduceMul,Nat.reduceBEq,reduceLeDiff,reduceToNat,reduceLE,hQ,hlt,zi,hgi,hk',↓mh,toNat_natCast,↓sG,kW,fV,bA,bB,uP,uQ,hls]
       repeat' (first | omega | exact hcm | exact hsm | exact ho | exact hst | exact rfl | refine ⟨?_,?_⟩)
  · have hlt:((i:Int)<(t.length:Int))=False:=eq_false (by omega)
    have hr2:qI t=true:=by rw [← hgd,List.drop_eq_nil_of_le h];rfl
    simp(maxSteps:=400000)only[↓ax,ay,BEq.rfl,reduceIte,reduceCtorEq,Nat.reduceLT,reduceAdd,reduceSub,reduceMul,Nat.reduceBEq,reduceLeDiff,reduceToNat,reduceLE,hQ,hlt,hr2]
def xD:dN:=fun args objs K=>match args with
 | [a0]=>gZ aH a0 (HK.mk:HK fun t=>(um t)∧(t.length≤100000)∧(∀ n ∈ t,n.c.s.length≤500000)∧K (.bool (qI t)) objs 0)
 | _=>False
theorem Mv:aF Tryz.prog 26 (xD):=by
 intro args objs K h
 unfold xD at h
 split at h
 · rename_i a0
   obtain ⟨t,rfl,h1,h2,h3,hk⟩:=h
   exact ⟨_,_,_,.pure _ rfl (Pz t h1 h2 h3),hk⟩
 · exact h.elim
def Hg (t:bf) (k:Nat):Bool:=decide (t.length≤k) && t.all jy && qI t
theorem Sj (t:bf) (k:Nat) (hk:k≤100000) (hl:t.length≤4611686018427387904) (htx:∀ n ∈ t,n.s.length≤4611686018427387904∧n.name.length≤4611686018427387904∧n.c.s.length≤4611686018427387904) (hcn:∀ n ∈ t,n.c.name.length≤4611686018427387904) :
  ah Tryz.prog 8 [aH t,.int .i64 k] [] (.bool (Hg t k)) []:=by
 refine C9.bg (T:=aQ Tryz.prog [(25,qa),(26,xD)]) 0 hD (aj (af I6 (af Mv ai))) aV (by decide) fun Q hQ=>?_
 cases hsh:(decide (t.length≤k) && t.all jy) with
 | false=>
  have hr:Hg t k=false:=by simp only [Hg,hsh,Bool.false_and]
  (conv=>arg 4;cbv);simp(maxSteps:=400000)only[↓ax,ay,BEq.rfl,reduceIte,reduceCtorEq,Nat.reduceLT,reduceAdd,reduceSub,reduceMul,Nat.reduceBEq,reduceLeDiff,reduceToNat,reduceLE,hQ,↓qa,toNat_natCast,hsh,hr]
  repeat' (first | omega | exact htx | refine ⟨?_,?_⟩)
 | true=>
  have hr:Hg t k=qI t:=by simp only [Hg,hsh,Bool.true_and]
  simp only [Bool.and_eq_true,decide_eq_true_eq,List.all_eq_true] at hsh
  have hsh':(decide (t.length≤k) && t.all jy)=true:=by simp only [Bool.and_eq_true,decide_eq_true_eq,List.all_eq_true];exact hsh
  have hs1:∀ n ∈ t,n.s.length≤100∧n.name.length≤100∧n.c.s.length≤100:=fun n hn=>by
   have:=hsh.2 n hn
   simp only [jy,Bool.and_eq_true,decide_eq_true_eq] at this
   exact ⟨this.1.1,this.1.2,this.2⟩
  have hsm:um t:=⟨by omega,fun n hn=>by have:=hs1 n hn;exact ⟨by omega,by omega,⟨by omega,hcn n hn⟩⟩⟩
  have hcs:∀ n ∈ t,n.c.s.length≤500000:=fun n hn=>by have:=hs1 n hn;omega
  (conv=>arg 4;cbv);simp(maxSteps:=400000)only[↓ax,ay,BEq.rfl,reduceIte,reduceCtorEq,Nat.reduceLT,reduceAdd,reduceSub,reduceMul,Nat.reduceBEq,reduceLeDiff,reduceToNat,reduceLE,hQ,↓qa,toNat_natCast,hsh',↓xD,hr]
  have hl5:t.length≤100000:=by omega
  repeat' (first | omega | exact htx | exact hsm | exact hcs | refine ⟨?_,?_⟩)
def mr:dN:=fun args objs K=>match args with
 | [a0,.int .i64 k]=>gZ aH a0 (HK.mk:HK fun t=>(0≤k∧k≤100000)∧(t.length≤4611686018427387904)∧(∀ n ∈ t,n.s.length≤4611686018427387904∧n.name.length≤4611686018427387904∧n.c.s.length≤4611686018427387904)∧(∀ n ∈ t,n.c.name.length≤4611686018427387904)∧K (.bool (Hg t k.toNat)) objs 0)
 | _=>False
theorem DY:aF Tryz.prog 8 (mr):=by
 intro args objs K h
 unfold mr at h
 split at h
 · rename_i a0 k
   obtain ⟨t,rfl,h1,h2,h3,h4,hk⟩:=h
   exact ⟨_,_,_,.pure _ rfl ((by have:=Sj t k.toNat (by omega) h2 h3 h4;rwa [Int.toNat_of_nonneg h1.1] at this)),hk⟩
 · exact h.elim
end Lp
namespace Lp
open Go Go.Proofs
open List (length_cons length_drop length_nil map_map map_nil)
open Nat (reduceAdd reduceLeDiff reduceMul reduceSub)
open Int (reduceLE reduceToNat)
def Ez (l:List bf) (ver:Nat):Obj:=⟨23,1,l.map aH,true,ver⟩
theorem Da (f:PV→PV) (hf:∀ l,f (aH l)=aH l) (D:List bf):(D.map aH).map (PV.bC f)=D.map aH:=by
 rw [map_map]
 exact List.map_congr_left fun x _=>hf x
theorem Hl (f:PV→PV) (hf:∀ x:fe,(aX x).bC f=aX x) (D:bf):(D.map aX).map (PV.bC f)=D.map aX:=by
 rw [map_map]
 exact List.map_congr_left fun x _=>hf x
theorem Zk (o:Obj) (D:bf) (ver:Nat) (t:TypeId) (rest:List Obj):eP 1 1 (o::⟨t,11,D.map aX,true,ver⟩::rest) (.aY 1 ver)=aH D:=by
 simp only [eP,Nat.lt_irrefl,if_false,fG,List.getElem?_cons_succ,List.getElem?_cons_zero,Nat.le_refl,decide_true,Bool.true_and,beq_self_eq_true,if_true,Hl (fG 0 1 _) (fun _=>rfl)]
 rfl
theorem X7 (o:Obj) (x:fe) (q:bf) (ver:Nat) (t:TypeId) (rest:List Obj):eP 1 1 (o::⟨t,11,aX x::q.map aX,true,ver⟩::rest) (.aY 1 ver)=aH (x::q):=Zk o (x::q) ver t rest
theorem PD (d n:Nat) (X:List Obj) (T:TypeId) (D:List bf) (u:Nat):fu d n X ⟨T,1,D.map aH,true,u⟩=⟨T,1,D.map aH,true,u⟩:=by
 simp only [fu,Da (eP d n X) (fun _=>rfl)]
theorem TG (D:List bf) (ver:Nat) (t:TypeId) (rest:List Obj):eP 1 0 (⟨t,1,D.map aH,true,ver⟩::rest) (.aY 0 ver)=jE D:=by
 simp only [eP,Nat.not_lt_zero,if_false,fG,List.getElem?_cons_zero,Nat.le_refl,decide_true,Bool.true_and,beq_self_eq_true,if_true,Da (fG 0 0 _) (fun _=>rfl)]
 rfl
theorem uF (t:bf) (ho:Y.One t):∃ n r ps,t=n::r∧0≤n.many∧Y.parts n.many.toNat r=some ps∧ps.flatten=r∧(∀ p ∈ ps,Y.One p)∧Y.partsOf n r=ps∧n.many=(ps.length:Int)∧ps.length≤r.length:=by
 obtain ⟨n,r,rfl⟩:∃ n r,t=n::r:=by
  cases t with
  | nil=>exact absurd rfl ho.ne
  | cons n r=>exact ⟨n,r,rfl⟩
 obtain ⟨hm,ps,h1,h2,h3⟩:=ho.parts
 have hl:=Y.bP _ _ _ h1
 exact ⟨n,r,ps,rfl,hm,h1,h2,h3,by simp [Y.partsOf,h1],by omega,by have:=Y.gu _ _ _ h1;omega⟩
theorem Jb (t:bf) (ho:Y.One t) (hl:t.length≤1000000):ah Tryz.prog 20 [aH t] [] (jE (bH t)) []:=by
 obtain ⟨n,r,ps,hv,hm,hp,hfl,hps,hpo,hmn,Ir⟩:=uF t ho
 have hg0:t[0]?=some n:=by rw [hv];rfl
 have hr:bH t=if n.kind=1 then [] else ps.map Y.ji:=by rw [hv,bH,hpo]
 have hd1:t.drop 1=r:=by rw [hv];rfl
 have hrl:r.length+1=t.length:=by rw [hv];rfl
 have hpl:=Y.bP _ _ _ hp
 refine zG.bg (T:=aQ Tryz.prog [(45,eO)]) 1 hD (aj (af mg ai)) aV (by decide) fun Q hQ=>?_
 (conv=>arg 4;cbv);simp(maxSteps:=400000)only[↓ax,ay,BEq.rfl,reduceIte,reduceCtorEq,Nat.reduceLT,reduceAdd,reduceSub,reduceMul,Nat.reduceBEq,reduceLeDiff,reduceToNat,reduceLE,hQ,gq]
 refine aA (fun m S=>∃ (i ver:Nat) (done:List bf) (rest:List bf),m=rest.length∧(done=[]∨n.kind≠1)∧done.length+rest.length=ps.length∧done++rest.map Y.ji=ps.map Y.ji∧Y.parts rest.length (t.drop i)=some rest∧
  S=⟨dh 47 [(0,aH t),(3,.aY 0 ver),(4,.int .i64 i),(5,.int .i64 done.length)],[⟨23,1,done.map aH,true,ver⟩]⟩) ps.length ⟨1,1,[],ps,rfl,.inl rfl,by simp,rfl,by rw [hd1,hpl];exact hp,?_⟩ ?_
 · simp only [bJ,keepR,reduceAdd,kU,Nat.reduceBEq,map_nil]
   rfl
 rintro m S ⟨i,ver,done,rest,rfl,hdn,hdl,hdr,hrp,rfl⟩
 cases rest with
 | nil=>
  simp only [length_nil,Nat.add_zero] at hdl
  have hlt:((done.length:Int)<(ps.length:Int))=False:=eq_false (by omega)
  simp only [map_nil,List.append_nil] at hdr
  have hres:bH t=done:=by
   rw [hr]
   split
   · rename_i h1;exact (hdn.resolve_right (fun h=>h h1)).symm
   · exact hdr.symm
  simp(maxSteps:=400000)only[↓ax,ay,BEq.rfl,reduceIte,reduceCtorEq,Nat.reduceLT,reduceAdd,reduceSub,reduceMul,Nat.reduceBEq,reduceLeDiff,reduceToNat,reduceLE,hQ,hg0,hmn,hlt,TG,hres]
 | cons p qs=>
  obtain ⟨c,Zy,h1,h2,h3⟩:=Y.dP (k:=qs.length) hrp
  simp only [List.cons.injEq] at h2
  obtain ⟨hp1,rfl⟩:=h2
  simp only [length_cons] at hdl
  have hlt:((done.length:Int)<(ps.length:Int))=True:=eq_true (by omega)
  by_cases hk:n.kind=1
  · have hk':=eq_true hk
    have hd:=hdn.resolve_right (fun h=>h hk)
    have hres:bH t=done:=by rw [hr,if_pos hk,hd]
    simp(maxSteps:=400000)only[↓ax,ay,BEq.rfl,reduceIte,reduceCtorEq,Nat.reduceLT,reduceAdd,reduceSub,reduceMul,Nat.reduceBEq,reduceLeDiff,reduceToNat,reduceLE,hQ,hg0,hmn,hlt,hk',TG,hres]
  rw [if_neg hk] at hr
  have hk':=eq_false hk
  have hc:=Y.dG _ _ _ h1
  simp only [length_drop] at hc
  have hnx:p_ t i=(i+c:Nat):=wD (Y.lW _ _ _ _ h1 (by omega))
  have zi:(0≤(i:Int))=True:=eq_true (by omega)
  have c1:((i:Int)≤((i+c:Nat):Int))=True:=eq_true (by omega)
  have c2:(((i+c:Nat):Int)≤(t.length:Int))=True:=eq_true (by omega)
  have hpe:List.drop i (List.take (i+c) t)=p:=by
   rw [List.drop_take,hp1,show i+c-i=c by omega]
  obtain ⟨x,q,hxq⟩:∃ x q,p=x::q:=by
   cases hh:p with
   | nil=>rw [hh] at hp1;have:=congrArg List.length hp1;simp at this;omega
   | cons x q=>exact ⟨x,q,rfl⟩
  have acy:p.length≤t.length:=by rw [hp1,List.length_take,length_drop];omega
  have hsz:∀ y:fe,y ∈ (x::q:bf)→(aX y).cells.length=11∧(aX y).cells.all PV.storable=true:=fun y _=>⟨rfl,rfl⟩
  rw [hxq] at hpe acy
  simp only [length_cons] at acy
  simp(maxSteps:=400000)only[↓ax,ay,BEq.rfl,reduceIte,reduceCtorEq,Nat.reduceLT,reduceAdd,reduceSub,reduceMul,Nat.reduceBEq,reduceLeDiff,reduceToNat,reduceLE,hQ,hg0,hmn,hlt,hk',↓eO,Int.toNat_natCast,hnx,zi,c1,c2,hpe,gq,gP,uj,bG,dF,List.set_cons_zero]
  refine ⟨by omega,hl,fun y hy=>?_,by omega,by omega,by omega,by omega,?_⟩
  · have:y ∈ (x::q:bf).map aX:=hy
    obtain ⟨z,_,rfl⟩:=List.mem_map.1 this
    exact ⟨rfl,rfl⟩
  refine aR _ (Weak.freeze 1 1 (Nat.zero_le _) _) ?_
  simp(maxSteps:=400000)only[↓ax,ay,BEq.rfl,reduceIte,reduceCtorEq,Nat.reduceLT,reduceAdd,reduceSub,reduceMul,Nat.reduceBEq,reduceLeDiff,reduceToNat,reduceLE,hQ,X7,RB,PD,List.take_succ_cons,List.take_zero]
  have adg:Y.ji p={ x with name:=[] }::q:=by rw [hxq];rfl
  refine ⟨by omega,by omega,⟨by omega,by omega⟩,qs.length,by omega,i+c,ver+1,done++[Y.ji p],qs,rfl,.inr hk,by simp only [List.length_append,length_cons,length_nil];omega,by rw [← hdr];simp,by rw [← List.drop_drop];exact h3,?_⟩
  rw [adg]
  simp
def uG:dN:=fun args objs K=>match args with
 | [a0]=>gZ aH a0 (HK.mk:HK fun t=>(Y.One t)∧(t.length≤1000000)∧K (jE (bH t)) objs 0)
 | _=>False
theorem Jc:aF Tryz.prog 20 (uG):=by
 intro args objs K h
 unfold uG at h
 split at h
 · rename_i a0
   obtain ⟨t,rfl,h1,h2,hk⟩:=h
   exact ⟨_,_,_,.pure _ rfl (Jb t h1 h2),hk⟩
 · exact h.elim
theorem Mw (t:bf) (ho:Y.One t) (hl:t.length≤1000000):ah Tryz.prog 24 [aH t] [] (cZ (gI t)) []:=by
 obtain ⟨n,r,ps,hv,hm,hp,hfl,hps,hpo,hmn,Ir⟩:=uF t ho
 have hg0:t[0]?=some n:=by rw [hv];rfl
 have hr:gI t=if n.kind=2 then ps.map Y.nameOf else []:=by rw [hv,gI,hpo]
 have hd1:t.drop 1=r:=by rw [hv];rfl
 have hrl:r.length+1=t.length:=by rw [hv];rfl
 have hpl:=Y.bP _ _ _ hp
 refine zH.bg (T:=aQ Tryz.prog [(45,eO)]) 1 hD (aj (af mg ai)) aV (by decide) fun Q hQ=>?_
 (conv=>arg 4;cbv);simp(maxSteps:=400000)only[↓ax,ay,BEq.rfl,reduceIte,reduceCtorEq,Nat.reduceLT,reduceAdd,reduceSub,reduceMul,Nat.reduceBEq,reduceLeDiff,reduceToNat,reduceLE,hQ]
 refine aA (fun m S=>∃ (i ver:Nat) (done:List (List UInt8)) (rest:List bf),m=rest.length∧(done=[]∨n.kind=2)∧done.length+rest.length=ps.length∧done++rest.map Y.nameOf=ps.map Y.nameOf∧Y.parts rest.length (t.drop i)=some rest∧
  S=⟨dh 34 [(0,aH t),(3,.aY 0 ver),(4,.int .i64 i),(5,.int .i64 done.length)],[⟨9,1,done.map .str,true,ver⟩]⟩) ps.length ⟨1,1,[],ps,rfl,.inl rfl,by simp,rfl,by rw [hd1,hpl];exact hp,?_⟩ ?_
 · simp only [bJ,keepR,reduceAdd,kU,Nat.reduceBEq,map_nil]
   rfl
 rintro m S ⟨i,ver,done,rest,rfl,hdn,hdl,hdr,hrp,rfl⟩
 have ef:eP 1 0 [⟨9,1,done.map .str,true,ver⟩] (.aY 0 ver)=cZ done:=by
  have:(done.map PV.str).map (PV.bC (fG 0 0 [⟨9,1,done.map .str,true,ver⟩]))=done.map PV.str:=by
   rw [map_map];exact List.map_congr_left fun x _=>rfl
  simp only [eP,Nat.not_lt_zero,if_false,fG,List.getElem?_cons_zero,Nat.le_refl,decide_true,Bool.true_and,beq_self_eq_true,if_true,this]
  rfl
 cases rest with
 | nil=>
  simp only [length_nil,Nat.add_zero] at hdl
  have hlt:((done.length:Int)<(ps.length:Int))=False:=eq_false (by omega)
  simp only [map_nil,List.append_nil] at hdr
  have hres:gI t=done:=by
   rw [hr]
   split
   · exact hdr.symm
   · rename_i h1;exact (hdn.resolve_right h1).symm
  simp(maxSteps:=400000)only[↓ax,ay,BEq.rfl,reduceIte,reduceCtorEq,Nat.reduceLT,reduceAdd,reduceSub,reduceMul,Nat.reduceBEq,reduceLeDiff,reduceToNat,reduceLE,hQ,hg0,hmn,hlt,ef,hres]
 | cons p qs=>
  obtain ⟨c,Zy,h1,h2,h3⟩:=Y.dP (k:=qs.length) hrp
  simp only [List.cons.injEq] at h2
  obtain ⟨hp1,rfl⟩:=h2
  simp only [length_cons] at hdl
  have hlt:((done.length:Int)<(ps.length:Int))=True:=eq_true (by omega)
  by_cases hk:n.kind=2
  rotate_left 1
  · have hk':=eq_false hk
    have hd:=hdn.resolve_right hk
    have hres:gI t=done:=by rw [hr,if_neg hk,hd]
    simp(maxSteps:=400000)only[↓ax,ay,BEq.rfl,reduceIte,reduceCtorEq,Nat.reduceLT,reduceAdd,reduceSub,reduceMul,Nat.reduceBEq,reduceLeDiff,reduceToNat,reduceLE,hQ,hg0,hmn,hlt,hk',ef,hres]
  rw [if_pos hk] at hr
  have hc:=Y.dG _ _ _ h1
  simp only [length_drop] at hc
  have hnx:p_ t i=(i+c:Nat):=wD (Y.lW _ _ _ _ h1 (by omega))
  have zi:(0≤(i:Int))=True:=eq_true (by omega)
  have hil:i<t.length:=by omega
  have hgi:=List.getElem?_eq_getElem hil
  have hdi:=List.drop_eq_getElem_cons hil
  generalize t[i]=pn at hgi hdi
  have hname:Y.nameOf p=pn.name:=by
   obtain ⟨w,hw⟩:∃ w,c=w+1:=⟨c-1,by omega⟩
   rw [hp1,hdi,hw];rfl
  simp(maxSteps:=400000)only[↓ax,ay,BEq.rfl,reduceIte,reduceCtorEq,Nat.reduceLT,reduceAdd,reduceSub,reduceMul,Nat.reduceBEq,reduceLeDiff,reduceToNat,reduceLE,hQ,hg0,hmn,hlt,hk,↓eO,Int.toNat_natCast,hnx,zi,hgi]
  refine ⟨by omega,by omega,by omega,hl,⟨by omega,by omega⟩,qs.length,by omega,i+c,ver+1,done++[pn.name],qs,rfl,by simp only [List.length_append,length_cons,length_nil];omega,by rw [← hdr,List.map_cons,hname];simp,by rw [← List.drop_drop];exact h3,by simp⟩
def uH:dN:=fun args objs K=>match args with
 | [a0]=>gZ aH a0 (HK.mk:HK fun t=>(Y.One t)∧(t.length≤1000000)∧K (cZ (gI t)) objs 0)
 | _=>False
theorem Jd:aF Tryz.prog 24 (uH):=by
 intro args objs K h
 unfold uH at h
 split at h
 · rename_i a0
   obtain ⟨t,rfl,h1,h2,hk⟩:=h
   exact ⟨_,_,_,.pure _ rfl (Mw t h1 h2),hk⟩
 · exact h.elim
end Lp
namespace Lp
open Go Go.Proofs
def Zl (x:PV) (l:List Vl):Prop:=x=dK l∨(x=.sl 0 [] (some true)∧l=[])
theorem Db (a:List Vl) (P:List Vl→Prop):(∃ l,Zl (dK a) l∧P l)=P a:=by
 apply propext
 constructor
 · rintro ⟨l,h | ⟨h,_⟩,hp⟩
   · rw [vS _ _ h];exact hp
   · simp [dK] at h
 · exact fun h=>⟨a,.inl rfl,h⟩
theorem Mx (P:List Vl→Prop):(∃ l,Zl (.sl 0 [] (some true)) l∧P l)=P []:=by
 apply propext
 constructor
 · rintro ⟨l,h | ⟨_,rfl⟩,hp⟩
   · simp [dK] at h
   · exact hp
 · exact fun h=>⟨[],.inr ⟨rfl,rfl⟩,h⟩
theorem TH {f:FuncId}{r:PV}(h:ah Tryz.prog f [dK []] [] r []):ah Tryz.prog f [.sl 0 [] (some true)] [] r []:=by
 refine h.arg rfl fun i p q hp hq=>?_
 match i with
 | 0=>cases hp;cases hq;exact m_ 0 1
 | _+1=>simp at hp
def nW:dN:=fun args objs K=>match args with
 | [x]=>∃ l,Zl x l∧l.length≤1000000∧l.flatten.length≤1000000∧K (aD (gF l)) objs 0
 | _=>False
theorem DZ:aF Tryz.prog 22 nW:=by
 intro args objs K h
 unfold nW at h
 split at h
 · obtain ⟨l,hx,h1,h2,hk⟩:=h
   rcases hx with rfl | ⟨rfl,rfl⟩
   · exact ⟨_,_,_,.pure _ rfl (JR l h1 h2),hk⟩
   · exact ⟨_,_,_,.pure _ rfl (TH (JR [] (Nat.zero_le _) (Nat.zero_le _))),hk⟩
 · exact h.elim
def nX:dN:=fun args objs K=>match args with
 | [x]=>∃ l,Zl x l∧l.length≤1000000∧l.flatten.length≤1000000∧K (aD (gF l)) objs 0
 | _=>False
theorem Ho:aF Tryz.prog 29 nX:=by
 intro args objs K h
 unfold nX at h
 split at h
 · obtain ⟨l,hx,h1,h2,hk⟩:=h
   rcases hx with rfl | ⟨rfl,rfl⟩
   · exact ⟨_,_,_,.pure _ rfl (AY l h1 h2),hk⟩
   · exact ⟨_,_,_,.pure _ rfl (TH (AY [] (Nat.zero_le _) (Nat.zero_le _))),hk⟩
 · exact h.elim
end Lp
namespace Lp
open Go Go.Proofs
open List (length_cons length_map mem_cons_of_mem)
structure jd (t:bf):Prop where
 rt:Kj bI iR t
 len:t.length≤100000
 cs:∀ n ∈ t,n.c.s.length≤500000
 nm:∀ n ∈ t,n.name.length≤4611686018427387904
theorem jd.part {n:fe}{r:bf}(h:jd (n::r)):∀ p ∈ bH (n::r),jd p∧p.length≤r.length:=by
 intro p hp
 have h1:=h.rt.part p hp
 have hl:=h.len
 simp only [length_cons] at hl
 refine ⟨⟨h1.1,by omega,?_,?_⟩,h1.2⟩
 all_goals
  by_cases hk:n.kind=1
  · simp only [bH,hk,if_true] at hp;cases hp
  simp only [bH,hk,if_false] at hp
  obtain ⟨_,_,ps,h3,h4,_⟩:=h.rt.parts
  rw [jV h3] at hp
  obtain ⟨q,hq,rfl⟩:=List.mem_map.1 hp
  have hr:∀ x ∈ q,x ∈ r:=fun x hx=>by rw [← h4];exact List.mem_flatten.2 ⟨q,hq,hx⟩
  intro x hx
  cases q with
  | nil=>cases hx
  | cons y z=>
   rcases List.mem_cons.1 hx with rfl | hx
   · first
      | exact h.cs y (mem_cons_of_mem _ (hr y (List.mem_cons_self ..)))
      | exact Nat.zero_le _
   · first
      | exact h.cs x (mem_cons_of_mem _ (hr x (mem_cons_of_mem _ hx)))
      | exact h.nm x (mem_cons_of_mem _ (hr x (mem_cons_of_mem _ hx)))
theorem jd.atoms {n:fe}{r:bf}(h:jd (n::r)) (hk:n.kind=1):(0≤n.n∧n.n≤31)∧(ko (n::r)).length≤100000∧(∀ a ∈ ko (n::r),fB a.c)∧(∀ a ∈ ko (n::r),a.c.s.length≤500000):=by
 obtain ⟨ps,p1,p2,p3,p4,p5,p6,p7⟩:=Ty (i:=0) h.rt rfl hk
 have hl:=h.len
 simp only [length_cons,List.drop_succ_cons,List.drop_zero] at hl p1 p2 p4
 have ha:ko (n::r)=ps.flatten.map jC:=by simp only [ko,hk,if_true,p2]
 have hm:∀ x ∈ ps.flatten,x ∈ r:=fun x hx=>by rw [p2] at hx;exact List.mem_of_mem_take hx
 have hs:∀ a ∈ ko (n::r),a.c.s.length≤500000:=fun a h'=>by
  rw [ha] at h'
  obtain ⟨x,hx,rfl⟩:=List.mem_map.1 h'
  exact h.cs x (mem_cons_of_mem _ (hm x hx))
 refine ⟨⟨by omega,by omega⟩,?_,fun a h'=>?_,hs⟩
 · rw [ha,length_map,p2,List.length_take];omega
 · have h2:=hs a h'
   rw [ha] at h'
   obtain ⟨x,hx,rfl⟩:=List.mem_map.1 h'
   exact J_ (p7 x hx) h2
theorem BL (l:List Vl) (ver:Nat) (t:TypeId) (rest:List Obj):eP 1 0 (⟨t,1,l.map aD,true,ver⟩::rest) (.aY 0 ver)=dK l:=by
 have:(l.map aD).map (PV.bC (fG 0 0 (⟨t,1,l.map aD,true,ver⟩::rest)))=l.map aD:=by
  rw [List.map_map];exact List.map_congr_left fun x _=>rfl
 simp only [eP,Nat.not_lt_zero,if_false,fG,List.getElem?_cons_zero,Nat.le_refl,decide_true,Bool.true_and,beq_self_eq_true,if_true,this]
 rfl
theorem PE {n:fe}{r:bf}(h:jd (n::r)):(bH (n::r)).length≤100000∧((bH (n::r)).map cO).flatten.length≤100000:=by
 have h1:=u_ h.rt
 have hl:=h.len
 simp only [length_cons] at hl
 have:∀ qs:List bf,(∀ q ∈ qs,(cO q).length≤q.length)→(qs.map cO).flatten.length≤qs.flatten.length:=by
  intro qs
  induction qs with
  | nil=>intro _;simp
  | cons a t ih=>
   intro hq
   have h1:=hq a (List.mem_cons_self ..)
   have h2:=ih fun q hx=>hq q (mem_cons_of_mem _ hx)
   simp only [List.map_cons,List.flatten_cons,List.length_append];omega
 have h2:=this _ fun q hq=>(rz (h.rt.part q hq).1).1
 omega
theorem jd.names {n:fe}{r:bf}(h:jd (n::r)):(gI (n::r)).length≤100000∧∀ s ∈ gI (n::r),s.length≤4611686018427387904:=by
 have hl:=h.len
 simp only [length_cons] at hl
 by_cases hk:n.kind=2
 · obtain ⟨_,_,ps,h3,h4,_⟩:=h.rt.parts
   have e:gI (n::r)=ps.map Y.nameOf:=by simp only [gI,hk,if_true,jV h3]
   have h1:=u_ h.rt
   have e2:bH (n::r)=ps.map Y.ji:=by simp only [bH,hk,jV h3];rfl
   rw [e2,length_map] at h1
   rw [e]
   refine ⟨by rw [length_map];omega,fun s hs=>?_⟩
   obtain ⟨q,hq,rfl⟩:=List.mem_map.1 hs
   cases q with
   | nil=>exact Nat.zero_le _
   | cons y z=>exact h.nm y (mem_cons_of_mem _ (by rw [← h4];exact List.mem_flatten.2 ⟨_,hq,List.mem_cons_self ..⟩))
 · have e:gI (n::r)=[]:=by simp [gI,hk]
   rw [e];exact ⟨Nat.zero_le _,fun s hs=>by cases hs⟩
end Lp
namespace Lp
open Go Go.Proofs
open List (length_cons length_drop length_nil nil_append tail_drop)
open Nat (reduceAdd reduceLeDiff reduceMul reduceSub)
theorem MB (v:bf) (i c:Nat) (hv:v.length≤4611686018427387904) (h:Y.skip (v.drop i) 1=some c):ah Tryz.prog 82 [aH v,.int .i64 i] [] (.int .i64 (i+c:Nat)) []:=by
 refine O9.pure (T:=aQ Tryz.prog []) 0 hD (aj ai) aV (by decide) ?_
 (conv=>arg 4;cbv);simp only [↓Ai,EO,↓Cw,↓yJ,↓Cx,yK,↓mX,mE,iW,eT,Ee,reduceAdd,reduceSub,qV,bR,Hy,Hz,yL]
 refine aA (fun m S=>∃ (j k c':Nat),m=c'∧Y.skip (v.drop j) k=some c'∧j+c'=i+c∧S=⟨mkT 19 [(0,aH v),(1,.int .i64 j),(5,.int .i64 k)],[]⟩) c ⟨i,1,c,rfl,h,rfl,?_⟩ ?_
 · simp only [Tc,aH,qV];rfl
 rintro m S ⟨j,k,c',rfl,hs,hj,rfl⟩
 simp only [↓Ai,EO,↓Cw,↓yJ,↓Cx,yK,↓mX,mE,iW,eT,Ee,reduceAdd,reduceSub,qV,Tc,bR,aH,aX,Hy,Hz,yL,aZ,eY,aL,dY,↓yc,↓KO,Ik,tH,EP,HV,Bool.not_false,Bool.and_self,reduceLeDiff,forall_const,ne_eq,reduceCtorEq,not_false_eq_true,true_and,PV.bool.injEq,Int.toNat_natCast,Nat.zero_add,decide_eq_true_eq,length_cons,length_nil]
 refine ⟨fun hk=>?_,fun hk=>?_⟩
 · obtain ⟨k,rfl⟩:∃ k',k=k'+1:=⟨k-1,by omega⟩
   have hjl:j<v.length:=by
    rcases Nat.lt_or_ge j v.length with h' | h'
    · exact h'
    · rw [List.drop_eq_nil_of_le h'] at hs;simp [Y.skip] at hs
   rw [List.drop_eq_getElem_cons hjl] at hs
   obtain ⟨hm,c'',rfl,hs'⟩:=Y.cB hs
   have hle:=Y.dG _ _ _ hs'
   simp only [length_drop] at hle
   have hk2:((k+1:Nat):Int)+(v[j].many-1)=((k+v[j].many.toNat:Nat):Int):=by omega
   exact ⟨by omega,v[j],List.getElem?_eq_getElem hjl,by omega,by omega,by omega,c'',by omega,j+1,k+v[j].many.toNat,c'',rfl,hs',by omega,by rw [hk2];rfl⟩
 · rw [if_pos trivial]
   have hk0:k=0:=by have:=of_decide_eq_false hk;omega
   subst hk0
   have:m=0:=by cases hd:v.drop j <;> rw [hd] at hs <;> simp [Y.skip] at hs <;> exact hs.symm
   subst this
   congr 1;omega
def EA (v:bf):Obj:=⟨44,11,v.map aX,true,0⟩
theorem wF (v:bf):eU [EA v]:=by
 intro o ho x hx p hp
 simp only [List.mem_singleton] at ho
 subst ho
 simp only [EA,List.mem_map] at hx
 obtain ⟨n,_,rfl⟩:=hx
 simp only [aX,PV.cells,List.mem_cons,List.not_mem_nil,or_false] at hp
 rcases hp with rfl | rfl | rfl | rfl | rfl | rfl | rfl | rfl | rfl | rfl | rfl <;> rfl
theorem Sk (n:fe):(aX n).cells.length=11∧(aX n).cells.all PV.storable=true:=⟨rfl,rfl⟩
theorem X8 (d n:Nat) (objs:List Obj) (v:bf):(v.map aX).map (PV.bC (eP d n objs))=v.map aX:=by
 rw [List.map_map]
 exact List.map_congr_left fun x _=>rfl
theorem Sl:ah Tryz.prog 55 [.sl 11 [] (some true)] [] (.aY 0 0) [EA []]:=by
 refine iJ.made (T:=aQ Tryz.prog []) 0 hD (aj ai) aV ?_
 (conv=>arg 4;cbv);simp only [↓Ai,EO,↓Cw,↓yJ,↓Cx,yK,↓mX,JK,Ee,reduceAdd,reduceSub,qV,Tc,bR,Hy,Hz,yL,eH,forall_const,reduceCtorEq,false_imp_iff,and_true,TK.slice.injEq,exists_eq',true_and]
 exact ⟨_,0,0,_,Weak.vD 2 44 11 rfl,rfl,rfl,rfl,rfl,rfl,wF []⟩
theorem PG (v:bf) (hv:v.length≤1099511627776):ah Tryz.prog 55 [.sl 11 (v.map aX) (some false)] [] (.aY 0 0) [EA v]:=by
 refine iJ.made (T:=aQ Tryz.prog []) 0 hD (aj ai) aV ?_
 (conv=>arg 4;cbv);simp only [↓Ai,EO,↓Cw,↓yJ,↓Cx,yK,↓mX,JK,Ee,reduceAdd,reduceSub,qV,Tc,bR,Hy,Hz,yL,eH,forall_const,reduceCtorEq,false_imp_iff,and_true,TK.slice.injEq,exists_eq',true_and]
 simp only [bK,dZ,mD,newObj,iV,bR,ne_eq,reduceCtorEq,not_false_eq_true,true_and,if_true,List.all_nil,Nat.zero_mul,Nat.zero_le,nil_append,length_nil,List.getElem?_cons_zero,Option.some.injEq]
 refine ⟨rfl,rfl,rfl,rfl,?_,_,rfl,rfl,rfl,rfl,rfl,?_,?_,fun _ _ h=>h.elim,_,0,2,_,Weak.refl _ _,rfl,rfl,rfl,rfl,?_,wF v⟩
 · intro y hy
   obtain ⟨n,_,rfl⟩:=List.mem_map.1 hy
   exact Sk n
 · simp;omega
 · simp;omega
 · simp only [fu,EA,List.replicate_zero,nil_append,X8]
theorem PI (v:bf) (hv:v.length≤1099511627776):ah Tryz.prog 55 [aH v] [] (.aY 0 0) [EA v]:=
 ah.split (pre:=[]) (post:=[]) (fun h=>by
  have:v=[]:=by simpa using h
  subst this
  exact Sl) (PG v hv)
theorem Sn (t:bf) (i:Int) (h0:0≤i) (hi:i.toNat<t.length) (hl:t.length≤1000000) (ho:Y.One t):ah Tryz.prog 82 [aH t,.int .i64 i] [] (.int .i64 (i.toNat+(Y.p9 t i.toNat).length:Nat)) []:=by
 obtain ⟨c,hc⟩:=ho.at hi
 have hle:=Y.dG _ _ _ hc
 rw [length_drop] at hle
 have hs:(Y.p9 t i.toNat).length=c:=by unfold Y.p9;rw [hc];simp only [List.length_take,length_drop];omega
 have:=MB t i.toNat c (by omega) hc
 rw [Int.toNat_of_nonneg h0] at this
 rw [hs]
 exact this
def qd:dN:=fun args objs K=>match args with
 | [a0,.int .i64 i]=>gZ aH a0 (HK.mk:HK fun t=>(0≤i)∧(i.toNat<t.length)∧(t.length≤1000000)∧(Y.One t)∧K (.int .i64 (i.toNat+(Y.p9 t i.toNat).length:Nat)) objs 0)
 | _=>False
theorem Je:aF Tryz.prog 82 (qd):=by
 intro args objs K h
 unfold qd at h
 split at h
 · rename_i a0 i
   obtain ⟨t,rfl,h1,h2,h3,h4,hk⟩:=h
   exact ⟨_,_,_,.pure _ rfl ((Sn t i h1 h2 h3 h4)),hk⟩
 · exact h.elim
def j6:Nat→List bf→List (List PV)
 | _,[]=>[]
 | i,p::ps=>[.int .i64 i,.int .i64 (i+p.length:Nat)]::j6 (i+p.length) ps
theorem xE:∀ (ps:List bf) (i:Nat),(j6 i ps).length=ps.length
 | [],_=>rfl
 | p::ps,i=>by simp only [j6,length_cons,xE ps]
theorem Ka:∀ (ps:List bf) (i:Nat),∀ y ∈ j6 i ps,y.length=2
 | [],_,y,h=>by cases h
 | p::ps,i,y,h=>by
  rcases List.mem_cons.1 h with rfl | h
  · rfl
  · exact Ka ps _ y h
theorem Sq (t:bf):ah Tryz.prog 54 [aH t] [] (.fn 81 [] [.addr (aH t)]) []:=by
 refine Vr.pure (T:=aQ Tryz.prog []) 1 hD (aj ai) aV (by decide) ?_
 (conv=>arg 4;cbv);simp only [↓Ai,EO,↓Cw,↓yJ,↓Cx,yK,↓mX,mE,iW,eT,reduceAdd,reduceSub,qV,bR,H8,jr,newObj,aH,EP,HV,ne_eq,reduceCtorEq,not_false_eq_true,true_and,length_cons,length_nil,nil_append]
 exact ⟨rfl,rfl,rfl⟩
def BM:dN:=fun args objs K=>match args with
 | [a0]=>gZ aH a0 (HK.mk:HK fun t=>K (.fn 81 [] [.addr (aH t)]) objs 0)
 | _=>False
theorem PK:aF Tryz.prog 54 (BM):=by
 intro args objs K h
 unfold BM at h
 split at h
 · rename_i a0
   obtain ⟨t,rfl,hk⟩:=h
   exact ⟨_,_,_,.pure _ rfl (Sq t),hk⟩
 · exact h.elim
theorem PL (t:bf) (n:fe) (ps:List bf) (ho:Y.One t) (hl:t.length≤1000000) (hg0:t[0]?=some n) (hp:Y.parts n.many.toNat (t.drop 1)=some ps) (hm:0≤n.many) :
  Gives Tryz.prog 81 [.addr (aH t)] (if n.kind=1 then [] else j6 1 ps):=by
 refine O_.gives (fnT:=tF [(82,qd)]) hD (af Je ai) aV ?_
 intro I J objs y hI Hw VQ
 have hpl:=Y.bP _ _ _ hp
 have Ir:=Y.gu _ _ _ hp
 rw [length_drop] at Ir
 have hmn:n.many=(ps.length:Int):=by omega
 (conv=>arg 4;cbv);simp(maxSteps:=400000)only[↓ax,ay,BEq.rfl,reduceIte,reduceCtorEq,Nat.reduceLT,reduceAdd,reduceSub,reduceMul,Nat.reduceBEq,reduceLeDiff,Int.reduceToNat,Int.reduceLE,hg0]
 refine aA (fun m S=>∃ (k i:Nat) (O:List Obj) (rest:List bf),k+rest.length=ps.length∧m=rest.length∧Y.parts rest.length (t.drop i)=some rest∧ps.drop k=rest∧(j6 1 ps).drop k=j6 i rest∧(if n.kind=1 then O=objs else I k O)∧
  S=⟨dh 28 [(0,.D9 y),(1,.addr (aH t)),(3,.int .i64 i),(8,.int .i64 n.many),(9,.int .i64 k)],O⟩) ps.length ⟨0,1,objs,ps,by omega,rfl,by rw [hpl];exact hp,rfl,rfl,by split;rfl;exact hI,?_⟩ ?_
 · simp only [bJ,keepR,reduceAdd,kU,Nat.reduceBEq,List.map_nil]
   rfl
 rintro m S ⟨k,i,O,rest,hk,rfl,hps,hd,hrw,UO,rfl⟩
 cases rest with
 | nil=>
  simp only [length_nil,Nat.add_zero] at hk
  have hlt:((k:Int)<(ps.length:Int))=False:=eq_false (by omega)
  simp(maxSteps:=400000)only[↓ax,ay,BEq.rfl,reduceIte,reduceCtorEq,Nat.reduceLT,reduceAdd,reduceSub,reduceMul,Nat.reduceBEq,reduceLeDiff,Int.reduceToNat,Int.reduceLE,hmn,hlt]
  refine ⟨.inl rfl,.inl ?_⟩
  by_cases h1:n.kind=1
  · rw [if_pos h1] at UO ⊢;rw [UO];exact hI
  · rw [if_neg h1] at UO ⊢;rw [xE,← hk];exact UO
 | cons p qs=>
  simp only [length_cons] at hk
  obtain ⟨c,Zy,h1,h2,h3⟩:=Y.dP (k:=qs.length) hps
  simp only [List.cons.injEq] at h2
  obtain ⟨hp1,rfl⟩:=h2
  have hc:=Y.dG _ _ _ h1
  simp only [length_drop] at hc
  have hlt:((k:Int)<(ps.length:Int))=True:=eq_true (by omega)
  have hpc:p.length=c:=by rw [hp1,List.length_take,length_drop];omega
  have hsub:(Y.p9 t i).length=c:=by
   have e:Y.p9 t i=p:=by unfold Y.p9;rw [h1];exact hp1.symm
   rw [e,hpc]
  have zi:(0≤(i:Int))=True:=eq_true (by omega)
  by_cases hk1:n.kind=1
  · have RJ:=eq_true hk1
    simp(maxSteps:=400000)only[↓ax,ay,BEq.rfl,reduceIte,reduceCtorEq,Nat.reduceLT,reduceAdd,reduceSub,reduceMul,Nat.reduceBEq,reduceLeDiff,Int.reduceToNat,Int.reduceLE,hmn,hlt,↓qd,Int.toNat_natCast,hsub,hg0,RJ]
    rw [if_pos hk1] at UO
    have e1:(j6 1 ps).drop (k+1)=j6 (i+c) qs:=by
     have:=congrArg List.tail hrw
     simpa [j6,tail_drop,hpc] using this
    have e2:ps.drop (k+1)=qs:=by
     have:=congrArg List.tail hd
     simpa [tail_drop] using this
    exact ⟨by omega,by omega,hl,ho,⟨by omega,by omega⟩,qs.length,by omega,k+1,i+c,O,qs,by omega,rfl,by rw [← List.drop_drop];exact h3,e2,e1,UO,by rw [Int.natCast_add k 1];rfl⟩
  · have RJ:=eq_false hk1
    simp(maxSteps:=400000)only[↓ax,ay,BEq.rfl,reduceIte,reduceCtorEq,Nat.reduceLT,reduceAdd,reduceSub,reduceMul,Nat.reduceBEq,reduceLeDiff,Int.reduceToNat,Int.reduceLE,hmn,hlt,↓qd,Int.toNat_natCast,hsub,hg0,RJ,VP]
    have e1:(j6 1 ps).drop (k+1)=j6 (i+c) qs:=by
     have:=congrArg List.tail hrw
     simpa [j6,tail_drop,hpc] using this
    have e2:ps.drop (k+1)=qs:=by
     have:=congrArg List.tail hd
     simpa [tail_drop] using this
    have e3:(j6 1 ps)[k]?=some [.int .i64 (i:Int),.int .i64 (i+c:Nat)]:=by
     have:=congrArg (fun l=>l[0]?) hrw
     simpa [j6,hpc] using this
    rw [if_neg hk1] at UO
    exact ⟨by omega,by omega,hl,ho,rfl,k,UO,e3,fun O' hI'=>⟨⟨by omega,by omega⟩,qs.length,by omega,k+1,i+c,O',qs,by omega,rfl,by rw [← List.drop_drop];exact h3,e2,e1,hI',by rw [Int.natCast_add k 1];rfl⟩,
     fun O' hJ'=>⟨.inr rfl,.inr ⟨k,by rw [xE];omega,hJ'⟩⟩⟩
end Lp
namespace Lp
open Go Go.Proofs
open List (mem_singleton)
open Nat (reduceAdd reduceLeDiff reduceMul reduceSub)
open Int (reduceLE reduceToNat)
def sH:dN:=fun args objs K=>match args with
 | [a]=>gZ aH a (HK.mk:HK fun t=>t.length≤1000000∧K (.aY objs.length 0) (objs++[EA t]) 2)
 | _=>False
theorem MC:aF Tryz.prog 55 sH:=by
 intro args objs K h
 unfold sH at h
 split at h
 · rename_i a
   obtain ⟨t,rfl,hv,hk⟩:=h
   have h:=lS.made (P:=Tryz.prog) (objs:=objs) _ _ rfl (wF t) (PI t (by omega))
   exact ⟨_,_,_,h,by simpa [PV.shift,PV.pK] using hk⟩
 · exact h.elim
theorem Kb (t:bf):∀ (ps:List bf) (i0 k:Nat) (args:List PV),ps.flatten=(t.drop i0).take ps.flatten.length→(j6 i0 ps)[k]?=some args→
  ∃ p o,ps[k]?=some p∧args=[.int .i64 (o:Nat),.int .i64 (o+p.length:Nat)]∧(t.drop o).take p.length=p
 | [],i0,k,args,_,h=>by simp [j6] at h
 | p::ps,i0,0,args,hf,h=>by
  simp only [j6,List.getElem?_cons_zero,Option.some.injEq] at h
  refine ⟨p,i0,rfl,h.symm,?_⟩
  have:=congrArg (List.take p.length) hf
  simp only [List.flatten_cons,List.take_left,List.length_append] at this
  rw [List.take_take,Nat.min_eq_left (by omega)] at this
  exact this.symm
 | p::ps,i0,k+1,args,hf,h=>by
  simp only [j6,List.getElem?_cons_succ] at h
  have:=congrArg (List.drop p.length) hf
  simp only [List.flatten_cons,List.drop_left,List.length_append] at this
  rw [List.drop_take,List.drop_drop,Nat.add_sub_cancel_left] at this
  obtain ⟨q,o,h1,h2,h3⟩:=Kb t ps (i0+p.length) k args this h
  exact ⟨q,o,by simpa using h1,h2,h3⟩
def PN (t:bf):Obj:=⟨23,1,[aH t],true,1⟩
def EB (t:bf):List bf→Nat→List Obj
 | [],_=>[PN t,⟨38,1,[.sl 0 [] (some true)],true,1⟩]
 | p::ps,v=>[PN t,⟨38,1,[.aY 2 v],true,1⟩,Ez (p::ps) v]
theorem Zm (t:bf) (l:List bf) (v:Nat):2≤(EB t l v).length∧jw (EB t l v):=by
 cases l with
 | nil=>
  refine ⟨by simp [EB],?_⟩
  intro o ho x hx c hc
  simp only [EB,PN,List.mem_cons,List.not_mem_nil,or_false] at ho
  rcases ho with rfl | rfl
  · simp only [mem_singleton] at hx;subst hx
    simp only [aH,PV.cells,mem_singleton] at hc;subst hc;rfl
  · simp only [mem_singleton] at hx;subst hx
    simp only [PV.cells,mem_singleton] at hc;subst hc;rfl
 | cons p ps=>
  refine ⟨by simp [EB],?_⟩
  intro o ho x hx c hc
  simp only [EB,PN,Ez,List.mem_cons,List.not_mem_nil,or_false] at ho
  rcases ho with rfl | rfl | rfl
  · simp only [mem_singleton] at hx;subst hx
    simp only [aH,PV.cells,mem_singleton] at hc;subst hc;rfl
  · simp only [mem_singleton] at hx;subst hx
    simp only [PV.cells,mem_singleton] at hc;subst hc;simp [EB,PV.uY]
  · simp only [List.mem_map] at hx
    obtain ⟨y,_,rfl⟩:=hx
    simp only [aH,PV.cells,mem_singleton] at hc;subst hc;rfl
theorem aay (x:fe) (q:bf):(EA (x::q)).live=true∧(EA (x::q)).ver=0∧(EA (x::q)).sz=11∧(EA (x::q)).ty=44∧(EA (x::q)).xs=aX x::q.map aX:=⟨rfl,rfl,rfl,rfl,rfl⟩
theorem adh (l:List bf) (v:Nat):(Ez l v).live=true∧(Ez l v).ver=v∧(Ez l v).sz=1∧(Ez l v).ty=23∧(Ez l v).xs=l.map aH:=⟨rfl,rfl,rfl,rfl,rfl⟩
theorem TI (k:Nat) (X:List Obj) (x:fe) (q:bf) (ver:Nat) (t:TypeId) (h:X[k]?=some ⟨t,11,aX x::q.map aX,true,ver⟩):eP 1 k X (.aY k ver)=aH (x::q):=by
 have e:(aX x::q.map aX).map (PV.bC (fG 0 k X))=aX x::q.map aX:=Hl (fG 0 k X) (fun _=>rfl) (x::q)
 simp only [eP,Nat.lt_irrefl,if_false,fG,h,Nat.le_refl,decide_true,Bool.true_and,beq_self_eq_true,if_true,e]
 rfl
theorem X9 (a b:Obj) (D:List bf) (ver:Nat):eP 2 0 [a,b,Ez D ver] (.aY 2 ver)=jE D:=by
 simp only [Ez,eP,Nat.not_lt_zero,if_false,fG,List.getElem?_cons_succ,List.getElem?_cons_zero,Nat.zero_le,decide_true,Bool.true_and,beq_self_eq_true,if_true,Da (fG 1 0 _) (fun _=>rfl)]
 rfl
theorem X_ :
  (∀ d X v i f,eP d 2 X (.bM 1 v i f)=.bM 1 v i f)∧(∀ d X v i f,eP d 3 X (.bM 1 v i f)=.bM 1 v i f)∧
  (∀ d n X T t u,fu d n X ⟨T,1,[aH t],true,u⟩=⟨T,1,[aH t],true,u⟩)∧
  (∀ d n X T u,fu d n X ⟨T,1,[.sl 0 [] (some true)],true,u⟩=⟨T,1,[.sl 0 [] (some true)],true,u⟩)∧
  (∀ d X T v u,fu d 3 X ⟨T,1,[.aY 2 v],true,u⟩=⟨T,1,[.aY 2 v],true,u⟩)∧
  (∀ d n X l v,fu d n X (Ez l v)=Ez l v):=
 ⟨fun _ _ _ _ _=>rfl,fun _ _ _ _ _=>rfl,fun _ _ _ _ _ _=>rfl,fun _ _ _ _ _=>rfl,fun _ _ _ _ _=>rfl,fun d n X l v=>PD d n X 23 l v⟩
def aaz (l:List bf):PV:=if l=[] then .sl 0 [] (some true) else jE l
theorem Jf (t:bf) (ho:Y.One t) (hl:t.length≤1000000):ah Tryz.prog 30 [aH t] [] (aaz (bH t)) []:=by
 obtain ⟨n,r,ps,hv,hm,hp,hfl,hps,hpo,hmn,Ir⟩:=uF t ho
 have hg0:t[0]?=some n:=by rw [hv];rfl
 have hd1:t.drop 1=r:=by rw [hv];rfl
 have hrl:r.length+1=t.length:=by rw [hv];rfl
 have hr:bH t=if n.kind=1 then [] else ps.map Y.ji:=by rw [hv,bH,hpo]
 have hgv:=PL t n ps ho hl hg0 (by rw [hd1];exact hp) hm
 refine Rw.bg (T:=aQ Tryz.prog [(54,BM),(55,sH)]) 2 hD (aj (af PK (af MC ai))) aV (by decide) fun Q hQ=>?_
 (conv=>arg 4;cbv);simp(maxSteps:=400000)only[↓ax,ay,BEq.rfl,reduceIte,reduceCtorEq,Nat.reduceLT,reduceAdd,reduceSub,reduceMul,Nat.reduceBEq,reduceLeDiff,reduceToNat,reduceLE,hQ,↓BM]
 obtain ⟨qs,hqs,hrows⟩:∃ qs:List bf,qs=(if n.kind=1 then [] else ps)∧(if n.kind=1 then [] else j6 1 ps)=j6 1 qs:=by
  by_cases h1:n.kind=1
  · exact ⟨[],by rw [if_pos h1],by rw [if_pos h1];rfl⟩
  · exact ⟨ps,by rw [if_neg h1],by rw [if_neg h1]⟩
 have hr':bH t=qs.map Y.ji:=by
  rw [hr,hqs];split <;> rfl
 have hqf:qs.flatten=(t.drop 1).take qs.flatten.length:=by
  rw [hqs];split
  · rfl
  · rw [hd1,hfl];simp
 have VW:qs.length≤t.length:=by
  rw [hqs];split
  · simp
  · omega
 have acz:∀ p ∈ qs,Y.One p:=by
  rw [hqs];split
  · intro p h;cases h
  · exact hps
 rw [hrows] at hgv
 clear hqs hrows hr
 refine F4 81 [.addr (aH t)] (j6 1 qs) (fun i O=>∃ ver,i≤qs.length∧O=EB t ((qs.take i).map Y.ji) ver) rfl rfl rfl trivial hgv (Ka qs 1) ⟨0,Nat.zero_le _,rfl⟩ ?_ ?_ ?_
 · rintro i O ⟨ver,_,rfl⟩
   exact Zm _ _ _
 · rintro i args O ⟨ver,hi,rfl⟩ ha
   obtain ⟨p,o,h1,rfl,h3⟩:=Kb t qs 1 i args hqf ha
   have hil:=(List.getElem?_eq_some_iff.1 h1).1
   have htk:(qs.take (i+1)).map Y.ji=(qs.take i).map Y.ji++[Y.ji p]:=by rw [List.take_add_one,h1];simp
   have adi:=(acz p (List.mem_of_getElem? h1)).ne
   obtain ⟨x,q,hpx⟩:∃ x q,p=x::q:=by
    cases p with
    | nil=>exact absurd rfl adi
    | cons x q=>exact ⟨x,q,rfl⟩
   have hxl:p.length=q.length+1:=by rw [hpx];rfl
   have hol:o+p.length≤t.length:=by
    have:=congrArg List.length h3
    rw [List.length_take,List.length_drop] at this
    omega
   have zo:(0≤(o:Int))=True:=eq_true (by omega)
   have c1:((o:Int)≤((o+p.length:Nat):Int))=True:=eq_true (by omega)
   have c2:(((o+p.length:Nat):Int)≤(t.length:Int))=True:=eq_true (by omega)
   have hsl:List.drop o (List.take (o+p.length) t)=p:=by rw [List.drop_take,show o+p.length-o=p.length by omega,h3]
   subst hpx
   simp only [List.length_cons] at c1 c2 hsl hol
   clear hxl
   cases hD:(qs.take i).map Y.ji with
   | nil=>
    unfold EB PN
    simp(maxSteps:=400000)only[↓ax,ay,BEq.rfl,reduceIte,reduceCtorEq,Nat.reduceLT,reduceAdd,reduceSub,reduceMul,Nat.reduceBEq,reduceLeDiff,reduceToNat,reduceLE,hQ,qo,knI,↓sH,zo,c1,c2,hsl,aay,List.set_cons_zero]
    refine ⟨by omega,by omega,?_⟩
    refine aR _ (Weak.freeze 1 2 ?_ _) ?_
    · exact Nat.le_refl _
    have hz:∀ a b:Obj,eP 1 2 [a,b,⟨44,11,aX { x with name:=[] }::q.map aX,true,0⟩] (.aY 2 0)=aH ({ x with name:=[] }::q):=fun a b=>TI 2 _ _ q 0 _ rfl
    simp(maxSteps:=400000)only[↓ax,ay,BEq.rfl,reduceIte,reduceCtorEq,Nat.reduceLT,reduceAdd,reduceSub,reduceMul,Nat.reduceBEq,reduceLeDiff,reduceToNat,reduceLE,hQ,hz,X_,List.take_succ_cons,List.take_zero]
    refine ⟨1,by omega,?_⟩
    rw [htk,hD];rfl
   | cons d ds=>
    unfold EB PN
    simp(maxSteps:=400000)only[↓ax,ay,BEq.rfl,reduceIte,reduceCtorEq,Nat.reduceLT,reduceAdd,reduceSub,reduceMul,Nat.reduceBEq,reduceLeDiff,reduceToNat,reduceLE,hQ,qo,knI,↓sH,zo,c1,c2,hsl,aay,List.set_cons_zero]
    refine ⟨by omega,by omega,?_⟩
    refine aR _ (Weak.freeze 1 3 ?_ _) ?_
    · exact (by decide:2≤3)
    have hz:∀ a b c:Obj,eP 1 3 [a,b,c,⟨44,11,aX { x with name:=[] }::q.map aX,true,0⟩] (.aY 3 0)=aH ({ x with name:=[] }::q):=fun a b c=>TI 3 _ _ q 0 _ rfl
    have hdl:ds.length≤t.length:=by
     have:=congrArg List.length hD
     simp only [List.length_map,List.length_take,List.length_cons] at this
     omega
    simp(maxSteps:=400000)only[↓ax,ay,BEq.rfl,reduceIte,reduceCtorEq,Nat.reduceLT,reduceAdd,reduceSub,reduceMul,Nat.reduceBEq,reduceLeDiff,reduceToNat,reduceLE,hQ,hz,X_,adh,List.take_succ_cons,List.take_zero]
    refine ⟨by omega,by omega,ver+1,by omega,?_⟩
    rw [htk,hD]
    simp only [List.cons_append,Ez,List.map_cons,List.map_append,List.map_nil]
    rfl
 · rintro O ⟨ver,_,rfl⟩
   rw [xE,List.take_length,← hr']
   cases hD:bH t with
   | nil=>
    unfold EB PN
    simp(maxSteps:=400000)only[↓ax,ay,BEq.rfl,reduceIte,reduceCtorEq,Nat.reduceLT,reduceAdd,reduceSub,reduceMul,Nat.reduceBEq,reduceLeDiff,reduceToNat,reduceLE,hQ]
    rw [hD];rfl
   | cons d ds=>
    unfold EB PN
    simp(maxSteps:=400000)only[↓ax,ay,BEq.rfl,reduceIte,reduceCtorEq,Nat.reduceLT,reduceAdd,reduceSub,reduceMul,Nat.reduceBEq,reduceLeDiff,reduceToNat,reduceLE,hQ]
    rw [hD]
    exact (X9 _ _ _ _).symm
theorem ME (t:bf) (ho:Y.One t) (hl:t.length≤1000000):ah Tryz.prog 30 [aH t] [] (jE (bH t)) []:=by
 refine (Jf t ho hl).res ?_
 unfold aaz
 split
 · rename_i h;rw [h];exact m_ 0 1
 · exact .refl _
def qf:dN:=fun args objs K=>match args with
 | [a0]=>gZ aH a0 (HK.mk:HK fun t=>(Y.One t)∧(t.length≤1000000)∧K (jE (bH t)) objs 0)
 | _=>False
theorem Jg:aF Tryz.prog 30 (qf):=by
 intro args objs K h
 unfold qf at h
 split at h
 · rename_i a0
   obtain ⟨t,rfl,h1,h2,hk⟩:=h
   exact ⟨_,_,_,.pure _ rfl (ME t h1 h2),hk⟩
 · exact h.elim
end Lp
namespace Lp
open Go Go.Proofs
open Nat (reduceAdd reduceLeDiff reduceMul reduceSub)
open Int (reduceLE reduceToNat)
theorem E8 {n:Nat}{l m:List (Nat×PV)}(h:∀ i,j4 l i=j4 m i):dh n l=dh n m:=
 wQ (by simp [mY]) fun i hi=>by rw [tK,if_pos hi,h]
theorem PO (t:bf) (n:fe) (hl:t.length≤1000000) (hg0:t[0]?=some n) (hm:0≤n.many) (hml:1+n.many.toNat≤t.length):ah Tryz.prog 52 [aH t,.int .i64 0] [] (bV (((t.drop 1).take n.many.toNat).map jC)) []:=by
 refine LZ.bg (T:=aQ Tryz.prog []) 1 hD (aj ai) aV (by decide) fun Q hQ=>?_
 have e1:(0:Int)+1=1:=rfl
 have e2:Int.toNat 1=1:=rfl
 have t1:(1+n.many).toNat=1+n.many.toNat:=by omega
 have c1:((1:Int)≤1+n.many)=True:=eq_true (by omega)
 have c2:(1+n.many≤(t.length:Int))=True:=eq_true (by omega)
 have hR:List.drop 1 (List.take (1+n.many.toNat) t)=(t.drop 1).take n.many.toNat:=by rw [List.drop_take];congr 1;omega
 have hRl:((t.drop 1).take n.many.toNat).length=n.many.toNat:=by rw [List.length_take,List.length_drop];omega
 (conv=>arg 4;cbv);simp(maxSteps:=400000)only[↓ax,ay,BEq.rfl,reduceIte,reduceCtorEq,Nat.reduceLT,reduceAdd,reduceSub,reduceMul,Nat.reduceBEq,reduceLeDiff,reduceToNat,reduceLE,hQ,hg0,e1,e2,t1,c1,c2,hR]
 generalize (t.drop 1).take n.many.toNat=R at *
 refine ⟨⟨by omega,by omega⟩,?_⟩
 refine wP (hz:=Nat.zero_le _) ⟨dh 35 [(5,.aY 0 0),(19,aH R),(20,.int .i64 R.length),(21,.int .i64 0)],[⟨87,7,[],true,0⟩]⟩ R.length ?_ ?_ ?_
  (I:=fun m S=>∃ i ver:Nat,i+m=R.length∧S=⟨dh 35 [(5,.aY 0 ver),(19,aH R),(20,.int .i64 R.length),(21,.int .i64 i)],[⟨87,7,((R.take i).map jC).map dL,true,ver⟩]⟩)
 · simp(maxSteps:=400000)only[↓ax,ay,BEq.rfl,reduceIte,reduceCtorEq,Nat.reduceLT,reduceAdd,reduceSub,reduceMul,Nat.reduceBEq,reduceLeDiff,reduceToNat,reduceLE,List.take_nil]
   refine (Weak.vD 5 87 7 (by rfl)).trans ?_
   rw [mZ.1,E8 (m:=[(5,.aY 0 0),(19,aH R),(20,.int .i64 R.length),(21,.int .i64 0)])]
   · exact Weak.refl _ _
   · intro i
     simp only [j4]
     by_cases h3:i=5
     · subst h3;rfl
     · simp only [h3,if_false]
 · exact ⟨0,0,by omega,rfl⟩
 rintro m S ⟨i,ver,him,rfl⟩
 rcases Nat.lt_or_ge i R.length with h | h
 · have hlt:((i:Int)<(R.length:Int))=True:=eq_true (by omega)
   have hgi:=List.getElem?_eq_getElem h
   generalize R[i]=x at hgi
   have htk:(R.take (i+1)).map jC=(R.take i).map jC++[⟨x.n,x.c⟩]:=by rw [List.take_add_one,hgi];simp [jC]
   have hti:(R.take i).length=i:=by rw [List.length_take];omega
   simp(maxSteps:=400000)only[↓ax,ay,BEq.rfl,reduceIte,reduceCtorEq,Nat.reduceLT,reduceAdd,reduceSub,reduceMul,Nat.reduceBEq,reduceLeDiff,reduceToNat,reduceLE,hQ,hlt,hgi,gq,gP,uj,bG,dF,atB,abb,hti,RB,List.take_succ_cons,List.take_zero]
   refine ⟨by omega,by omega,by omega,⟨by omega,by omega⟩,m-1,by omega,i+1,ver+1,by omega,?_⟩
   have hk:∀ d m O (l:List lJ) v,fu d m O ⟨87,7,l.map dL,true,v⟩=⟨87,7,l.map dL,true,v⟩:=fun d m O l v=>by
    have:(l.map dL).map (PV.bC (eP d m O))=l.map dL:=by rw [List.map_map];exact List.map_congr_left fun x _=>rfl
    simp only [fu,this]
   have e:List.map dL (List.map jC (List.take i R))++[dL ⟨x.n,x.c⟩]=(((R.take (i+1)).map jC).map dL):=by rw [htk];simp
   simp only [e,List.map_cons,List.map_nil,hk]
   rfl
 · have hlt:((i:Int)<(R.length:Int))=False:=eq_false (by omega)
   rw [List.take_of_length_le h]
   simp(maxSteps:=400000)only[↓ax,ay,BEq.rfl,reduceIte,reduceCtorEq,Nat.reduceLT,reduceAdd,reduceSub,reduceMul,Nat.reduceBEq,reduceLeDiff,reduceToNat,reduceLE,hQ,hlt,L6]
theorem MF (t:bf) (hl:t.length≤1000000) (ho:Y.One t):ah Tryz.prog 28 [aH t] [] (if Y.kindOf t=1 then bV (ko t) else .sl 0 [] (some true)) []:=by
 obtain ⟨n,r,ps,hv,hm,hp,hfl,hps,hpo,hmn,Ir⟩:=uF t ho
 have hg0:t[0]?=some n:=by rw [hv];rfl
 have hkd:Y.kindOf t=n.kind:=by rw [hv];rfl
 rw [hkd]
 by_cases hk:n.kind=1
 · rw [if_pos hk]
   have ha:ko t=((t.drop 1).take n.many.toNat).map jC:=by rw [hv];simp [ko,hk]
   have hml:1+n.many.toNat≤t.length:=by rw [hv,List.length_cons];omega
   rw [ha]
   have hsp:=PO t n hl hg0 hm hml
   generalize ((t.drop 1).take n.many.toNat).map jC=A at *
   have hok:aF Tryz.prog 52 (fun args objs K=>args=[aH t,.int .i64 0]∧K (bV A) objs 0):=by
    rintro args objs K ⟨rfl,hk⟩
    exact ⟨_,_,_,.pure _ rfl hsp,hk⟩
   refine GX.bg (T:=aQ Tryz.prog [(52,_)]) 0 hD (aj (af hok ai)) aV (by decide) fun Q hQ=>?_
   (conv=>arg 4;cbv);simp(maxSteps:=400000)only[↓ax,ay,BEq.rfl,reduceIte,reduceCtorEq,Nat.reduceLT,reduceAdd,reduceSub,reduceMul,Nat.reduceBEq,reduceLeDiff,reduceToNat,reduceLE,hQ,hg0,hk]
 · rw [if_neg hk]
   have hk':=eq_false hk
   refine GX.bg (T:=aQ Tryz.prog []) 0 hD (aj ai) aV (by decide) fun Q hQ=>?_
   (conv=>arg 4;cbv);simp(maxSteps:=400000)only[↓ax,ay,BEq.rfl,reduceIte,reduceCtorEq,Nat.reduceLT,reduceAdd,reduceSub,reduceMul,Nat.reduceBEq,reduceLeDiff,reduceToNat,reduceLE,hQ,hg0,hk']
theorem Jh (t:bf) (hl:t.length≤1000000) (ho:Y.One t):ah Tryz.prog 28 [aH t] [] (bV (ko t)) []:=by
 refine (MF t hl ho).res ?_
 split
 · exact .refl _
 · rename_i h
   have:ko t=[]:=by
    cases t with
    | nil=>rfl
    | cons n r=>have hk:¬ n.kind=1:=h;simp [ko,hk]
   rw [this]
   exact m_ 0 7
def uI:dN:=fun args objs K=>match args with
 | [a0]=>gZ aH a0 (HK.mk:HK fun t=>(t.length≤1000000)∧(Y.One t)∧K (bV (ko t)) objs 0)
 | _=>False
theorem Ji:aF Tryz.prog 28 (uI):=by
 intro args objs K h
 unfold uI at h
 split at h
 · rename_i a0
   obtain ⟨t,rfl,h1,h2,hk⟩:=h
   exact ⟨_,_,_,.pure _ rfl (Jh t h1 h2),hk⟩
 · exact h.elim
end Lp
namespace Lp
open Go Go.Proofs
open List (length_take map_append map_map take_add_one take_length)
open Nat (reduceAdd reduceLeDiff reduceMul reduceSub zero_le)
open Int (reduceEq reduceLE reduceToNat)
theorem Kc (l:List (List UInt8)) (ver:Nat) (t:TypeId) (rest:List Obj):eP 1 0 (⟨t,1,l.map .str,true,ver⟩::rest) (.aY 0 ver)=cZ l:=by
 have:(l.map PV.str).map (PV.bC (fG 0 0 (⟨t,1,l.map .str,true,ver⟩::rest)))=l.map .str:=by
  rw [map_map];exact List.map_congr_left fun x _=>rfl
 simp only [eP,Nat.not_lt_zero,if_false,fG,List.getElem?_cons_zero,Nat.le_refl,decide_true,Bool.true_and,beq_self_eq_true,if_true,this]
 rfl
theorem Ke (o:Obj) (l:List Vl) (ver:Nat) (t:TypeId) (rest:List Obj):eP 1 0 (o::⟨t,1,l.map aD,true,ver⟩::rest) (.aY 1 ver)=dK l:=by
 have:(l.map aD).map (PV.bC (fG 0 0 (o::⟨t,1,l.map aD,true,ver⟩::rest)))=l.map aD:=by
  rw [map_map];exact List.map_congr_left fun x _=>rfl
 simp only [eP,Nat.not_lt_zero,if_false,fG,List.getElem?_cons_succ,List.getElem?_cons_zero,zero_le,decide_true,Bool.true_and,beq_self_eq_true,if_true,this]
 rfl
theorem Zn {n:fe}{ps:List bf}{i:Nat}{p:bf}(hp:ps[i]?=some p) (hne:p≠[]):∃ y z,p=y::z∧(n::ps.flatten)[1+(ps.take i).flatten.length]?=some y:=by
 obtain ⟨y,z,rfl⟩:∃ y z,p=y::z:=by
  cases p with
  | nil=>exact absurd rfl hne
  | cons y z=>exact ⟨y,z,rfl⟩
 refine ⟨y,z,rfl,?_⟩
 have hi:=(List.getElem?_eq_some_iff.1 hp).1
 have h2:ps.flatten=(ps.take i).flatten++(ps.drop i).flatten:=by rw [← List.flatten_append,List.take_append_drop]
 have h3:ps.drop i=(y::z)::ps.drop (i+1):=by
  rw [List.drop_eq_getElem_cons hi];rw [List.getElem?_eq_getElem hi] at hp;rw [Option.some.inj hp]
 rw [Nat.add_comm,List.getElem?_cons_succ,h2,List.getElem?_append_right (Nat.le_refl _),Nat.sub_self,h3]
 rfl
theorem TJ:∀ (f:Nat) (t:bf),t.length≤f→jd t→ah Tryz.prog 11 [aH t] [] (aD (cO t)) []
 | 0,t,h,hw=>absurd (List.length_eq_zero_iff.1 (by omega)) hw.rt.one.ne
 | f+1,[],_,hw=>absurd rfl hw.rt.one.ne
 | f+1,n::r,h,hw=>by
  have hok:aF Tryz.prog 11 (fun args objs K=>match args with | [a]=>gZ aH a (HK.mk:HK fun p=>p.length≤f∧jd p∧K (aD (cO p)) objs 0) | _=>False):=by
   intro args objs K h
   split at h
   · obtain ⟨p,rfl,h1,h2,hk⟩:=h
     exact ⟨_,_,_,.pure _ rfl (TJ f p h1 h2),hk⟩
   · exact h.elim
  refine XU.bg (T:=aQ Tryz.prog [(30,qf),(28,uI),(27,BJ),(31,oQ),(29,nX),(11,_)]) 0 hD (aj (af Jg (af Ji (af Pw (af Er (af Ho (af hok ai))))))) aV (by decide) fun Q hQ=>?_
  simp only [List.length_cons] at h
  have hl:=hw.len
  have ho:=hw.rt.one
  have hwp:=hw.part
  have hwl:=PE hw
  have hE:=ED hw.rt
  have hg0:(n::r)[0]?=some n:=rfl
  have hA:=hw.atoms
  have hN:=hw.names
  have hNo:=hw.rt.names
  obtain ⟨_,_,raw,h3,h4,_⟩:=hw.rt.parts
  have hP:n.kind≠1→bH (n::r)=raw.map Y.ji:=fun hk=>by simp only [bH,hk,if_false,jV h3]
  have hNm:n.kind=2→gI (n::r)=raw.map Y.nameOf:=fun hk=>by simp only [gI,hk,if_true,jV h3]
  have hrow:=fun {i:Nat}{p:bf}=>Zn (n:=n) (ps:=raw) (i:=i) (p:=p)
  rw [h4] at hrow
  have hrl:raw.flatten.length=r.length:=by rw [h4]
  generalize hT:n::r=T at *
  have hTl:T.length=r.length+1:=by rw [← hT];rfl
  by_cases k0:n.kind=0
  · have hr:cO T=[aM]:=by rw [hE];simp [k0]
    (conv=>arg 4;cbv);simp(maxSteps:=400000)only[↓ax,ay,BEq.rfl,reduceIte,reduceCtorEq,Nat.reduceLT,reduceAdd,reduceSub,reduceMul,Nat.reduceBEq,reduceLeDiff,reduceToNat,reduceLE,hQ,hg0,bA,bB,uP,uQ,bG,reduceEq,k0,hr]
    rfl
  have n0:=eq_false k0
  by_cases k1:n.kind=1
  · have hr:cO T=[(nZ n.n (ko T)).1]:=by rw [hE];simp [k1]
    (conv=>arg 4;cbv);simp(maxSteps:=400000)only[↓ax,ay,BEq.rfl,reduceIte,reduceCtorEq,Nat.reduceLT,reduceAdd,reduceSub,reduceMul,Nat.reduceBEq,reduceLeDiff,reduceToNat,reduceLE,hQ,hg0,bA,bB,uP,uQ,bG,reduceEq,n0,k1,↓uI,↓BJ,kW,fV,hr]
    obtain ⟨a1,a2,a3,a4⟩:=hA k1
    exact ⟨by omega,ho,a1,by omega,a3,a4,rfl⟩
  have n1:=eq_false k1
  by_cases k3:n.kind=3
  · have hr:cO T=[⟨6,0,[],[],false,0⟩]:=by rw [hE];simp [k3]
    (conv=>arg 4;cbv);simp(maxSteps:=400000)only[↓ax,ay,BEq.rfl,reduceIte,reduceCtorEq,Nat.reduceLT,reduceAdd,reduceSub,reduceMul,Nat.reduceBEq,reduceLeDiff,reduceToNat,reduceLE,hQ,hg0,bA,bB,uP,uQ,bG,reduceEq,n0,n1,k3,hr]
  have n3:=eq_false k3
  by_cases k24:n.kind=2∨n.kind=4
  rotate_left 1
  · have n2:=eq_false fun e:n.kind=2=>k24 (.inl e)
    have n4:=eq_false fun e:n.kind=4=>k24 (.inr e)
    have hr:cO T=gF []:=by rw [hE,if_neg k0,if_neg k1,if_neg k3,if_neg fun e:n.kind=2=>k24 (.inl e),if_neg fun e:n.kind=4=>k24 (.inr e)]
    (conv=>arg 4;cbv);simp(maxSteps:=400000)only[↓ax,ay,BEq.rfl,reduceIte,reduceCtorEq,Nat.reduceLT,reduceAdd,reduceSub,reduceMul,Nat.reduceBEq,reduceLeDiff,reduceToNat,reduceLE,hQ,hg0,bA,bB,uP,uQ,bG,reduceEq,n0,n1,n3,n2,n4,↓nX,Db,Mx,hr]
    exact zero_le _
  have hk1:n.kind≠1:=k1
  have hps:=hP hk1
  generalize hpp:bH T=ps at *
  have hpl:ps.length=raw.length:=by rw [hps,List.length_map]
  have kk:(n.kind=2∧((n.kind=4)=False))∨((n.kind=2)=False∧n.kind=4):=by
   rcases k24 with e | e
   · exact .inl ⟨e,eq_false (by omega)⟩
   · exact .inr ⟨eq_false (by omega),e⟩
  rcases kk with ⟨k2,n4⟩ | ⟨n2,k4⟩
  · (conv=>arg 4;cbv);simp(maxSteps:=400000)only[↓ax,ay,BEq.rfl,reduceIte,reduceCtorEq,Nat.reduceLT,reduceAdd,reduceSub,reduceMul,Nat.reduceBEq,reduceLeDiff,reduceToNat,reduceLE,hQ,hg0,bA,bB,uP,uQ,bG,reduceEq,n0,n1,n3,k2,n4,↓qf,hpp]
    refine ⟨ho,by omega,?_⟩
    refine wP ⟨dh 81 [(0,aH T),(5,.aY 0 0),(6,.aY 1 0),(7,.int .i64 1),(43,jE ps),(44,.int .i64 ps.length),(45,.int .i64 0)],[⟨9,1,[],true,0⟩,⟨28,1,[],true,0⟩]⟩ ps.length ?_ ?_ ?_
     (I:=fun m S=>∃ i v1 v2:Nat,i+m=ps.length∧S=⟨dh 81 [(0,aH T),(5,.aY 0 v1),(6,.aY 1 v2),(7,.int .i64 ((1+(raw.take i).flatten.length:Nat):Int)),(43,jE ps),(44,.int .i64 ps.length),(45,.int .i64 i)],[⟨9,1,((raw.take i).map Y.nameOf).map .str,true,v1⟩,⟨28,1,((ps.take i).map cO).map aD,true,v2⟩]⟩)
    · simp(maxSteps:=400000)only[↓ax,ay,BEq.rfl,reduceIte,reduceCtorEq,Nat.reduceLT,reduceAdd,reduceSub,reduceMul,Nat.reduceBEq,reduceLeDiff,reduceToNat,reduceLE,List.take_nil]
      refine (Weak.vD 5 9 1 (by rfl)).trans ?_
      rw [mZ.1]
      refine (Weak.vD 6 28 1 (by rfl)).trans ?_
      rw [mZ.1,E8 (m:=[(0,aH T),(5,.aY 0 0),(6,.aY 1 0),(7,.int .i64 1),(43,jE ps),(44,.int .i64 ps.length),(45,.int .i64 0)])]
      · exact Weak.refl _ _
      · intro i
        simp only [j4]
        by_cases h5:i=5
        · subst h5;rfl
        by_cases h6:i=6
        · subst h6;rfl
        · simp only [h5,h6,if_false]
          repeat' split
          all_goals first | rfl | omega
    · exact ⟨0,0,0,by omega,rfl⟩
    rintro m S ⟨i,v1,v2,him,rfl⟩
    rcases Nat.lt_or_ge i ps.length with h' | h'
    · have hlt:((i:Int)<(ps.length:Int))=True:=eq_true (by omega)
      have hgi:=List.getElem?_eq_getElem h'
      have hpi:=hwp _ (List.getElem_mem h')
      generalize ps[i]=p at hgi hpi
      obtain ⟨q,hq,VO⟩:∃ q,raw[i]?=some q∧Y.ji q=p:=by
       rw [hps,List.getElem?_map] at hgi
       cases hx:raw[i]? with
       | none=>rw [hx] at hgi;cases hgi
       | some q=>rw [hx] at hgi;exact ⟨q,rfl,Option.some.inj hgi⟩
      have hqn:q≠[]:=fun e=>hpi.1.rt.one.ne (by rw [← VO,e];rfl)
      obtain ⟨y,z,hyz,hy⟩:=hrow hq hqn
      have hpq:p.length=q.length:=by rw [← VO,Y.fo]
      have hyn:Y.nameOf q=y.name:=by rw [hyz];rfl
      have htk:(ps.take (i+1)).map cO=(ps.take i).map cO++[cO p]:=by rw [take_add_one,hgi];simp
      have htn:(raw.take (i+1)).map Y.nameOf=(raw.take i).map Y.nameOf++[y.name]:=by rw [take_add_one,hq];simp [hyn]
      have htf:(raw.take (i+1)).flatten.length=(raw.take i).flatten.length+p.length:=by rw [take_add_one,hq,hpq];simp
      have hlf:(raw.take (i+1)).flatten.length≤raw.flatten.length:=by
       have h2:raw.flatten=(raw.take (i+1)).flatten++(raw.drop (i+1)).flatten:=by rw [← List.flatten_append,List.take_append_drop]
       rw [h2,List.length_append];omega
      have ht3:(ps.take i).length=i:=by rw [length_take];omega
      have ht4:(raw.take i).length=i:=by rw [length_take];omega
      generalize hPl:1+(raw.take i).flatten.length=P at *
      have zp:(0≤(P:Int))=True:=eq_true (by omega)
      simp(maxSteps:=400000)only[↓ax,ay,BEq.rfl,reduceIte,reduceCtorEq,Nat.reduceLT,reduceAdd,reduceSub,reduceMul,Nat.reduceBEq,reduceLeDiff,reduceToNat,reduceLE,hQ,hlt,hgi,zp,hy,ht3,ht4]
      exact ⟨by omega,by omega,by omega,by have:=hpi.2;omega,hpi.1,by omega,by omega,⟨by omega,by omega⟩,⟨by omega,by omega⟩,m-1,by omega,i+1,v1+1,v2+1,by omega,by
       rw [htn,htk,map_append,map_append,show ((1+(raw.take (i+1)).flatten.length:Nat):Int)=(P:Int)+(p.length:Int) by omega,Int.natCast_add,Int.natCast_one];rfl⟩
    · have hlt:((i:Int)<(ps.length:Int))=False:=eq_false (by omega)
      have hi:i=ps.length:=by omega
      subst hi
      have htk:ps.take ps.length=ps:=take_length
      have htr:raw.take ps.length=raw:=by rw [hpl];exact take_length
      rw [htr,htk]
      simp(maxSteps:=400000)only[↓ax,ay,BEq.rfl,reduceIte,reduceCtorEq,Nat.reduceLT,reduceAdd,reduceSub,reduceMul,Nat.reduceBEq,reduceLeDiff,reduceToNat,reduceLE,hQ,hlt]
      refine aR _ (Weak.freeze 1 0 (zero_le _) _) ?_
      have hr:cO T=gG (gI T) (ps.map cO):=by rw [hE];simp [k2]
      rw [← hNm k2]
      simp(maxSteps:=400000)only[↓ax,ay,BEq.rfl,reduceIte,reduceCtorEq,Nat.reduceLT,reduceAdd,reduceSub,reduceMul,Nat.reduceBEq,reduceLeDiff,reduceToNat,reduceLE,hQ,Kc,Ke,hg0,k2,n4,↓oQ,fV,reduceEq,hr]
      refine ⟨by have:=hN.1;omega,by omega,fun v hv=>?_,hN.2⟩
      obtain ⟨q,hq,rfl⟩:=List.mem_map.1 hv
      exact (rz (hwp q hq).1.rt).2
  · (conv=>arg 4;cbv);simp(maxSteps:=400000)only[↓ax,ay,BEq.rfl,reduceIte,reduceCtorEq,Nat.reduceLT,reduceAdd,reduceSub,reduceMul,Nat.reduceBEq,reduceLeDiff,reduceToNat,reduceLE,hQ,hg0,bA,bB,uP,uQ,bG,reduceEq,n0,n1,n3,n2,k4,↓qf,hpp]
    refine ⟨ho,by omega,?_⟩
    refine wP ⟨dh 81 [(0,aH T),(5,.aY 0 0),(6,.aY 1 0),(7,.int .i64 1),(43,jE ps),(44,.int .i64 ps.length),(45,.int .i64 0)],[⟨9,1,[],true,0⟩,⟨28,1,[],true,0⟩]⟩ ps.length ?_ ?_ ?_
     (I:=fun m S=>∃ i v1 v2:Nat,i+m=ps.length∧S=⟨dh 81 [(0,aH T),(5,.aY 0 v1),(6,.aY 1 v2),(7,.int .i64 ((1+(raw.take i).flatten.length:Nat):Int)),(43,jE ps),(44,.int .i64 ps.length),(45,.int .i64 i)],[⟨9,1,((raw.take i).map Y.nameOf).map .str,true,v1⟩,⟨28,1,((ps.take i).map cO).map aD,true,v2⟩]⟩)
    · simp(maxSteps:=400000)only[↓ax,ay,BEq.rfl,reduceIte,reduceCtorEq,Nat.reduceLT,reduceAdd,reduceSub,reduceMul,Nat.reduceBEq,reduceLeDiff,reduceToNat,reduceLE,List.take_nil]
      refine (Weak.vD 5 9 1 (by rfl)).trans ?_
      rw [mZ.1]
      refine (Weak.vD 6 28 1 (by rfl)).trans ?_
      rw [mZ.1,E8 (m:=[(0,aH T),(5,.aY 0 0),(6,.aY 1 0),(7,.int .i64 1),(43,jE ps),(44,.int .i64 ps.length),(45,.int .i64 0)])]
      · exact Weak.refl _ _
      · intro i
        simp only [j4]
        by_cases h5:i=5
        · subst h5;rfl
        by_cases h6:i=6
        · subst h6;rfl
        · simp only [h5,h6,if_false]
          repeat' split
          all_goals first | rfl | omega
    · exact ⟨0,0,0,by omega,rfl⟩
    rintro m S ⟨i,v1,v2,him,rfl⟩
    rcases Nat.lt_or_ge i ps.length with h' | h'
    · have hlt:((i:Int)<(ps.length:Int))=True:=eq_true (by omega)
      have hgi:=List.getElem?_eq_getElem h'
      have hpi:=hwp _ (List.getElem_mem h')
      generalize ps[i]=p at hgi hpi
      obtain ⟨q,hq,VO⟩:∃ q,raw[i]?=some q∧Y.ji q=p:=by
       rw [hps,List.getElem?_map] at hgi
       cases hx:raw[i]? with
       | none=>rw [hx] at hgi;cases hgi
       | some q=>rw [hx] at hgi;exact ⟨q,rfl,Option.some.inj hgi⟩
      have hqn:q≠[]:=fun e=>hpi.1.rt.one.ne (by rw [← VO,e];rfl)
      obtain ⟨y,z,hyz,hy⟩:=hrow hq hqn
      have hpq:p.length=q.length:=by rw [← VO,Y.fo]
      have hyn:Y.nameOf q=y.name:=by rw [hyz];rfl
      have htk:(ps.take (i+1)).map cO=(ps.take i).map cO++[cO p]:=by rw [take_add_one,hgi];simp
      have htn:(raw.take (i+1)).map Y.nameOf=(raw.take i).map Y.nameOf++[y.name]:=by rw [take_add_one,hq];simp [hyn]
      have htf:(raw.take (i+1)).flatten.length=(raw.take i).flatten.length+p.length:=by rw [take_add_one,hq,hpq];simp
      have hlf:(raw.take (i+1)).flatten.length≤raw.flatten.length:=by
       have h2:raw.flatten=(raw.take (i+1)).flatten++(raw.drop (i+1)).flatten:=by rw [← List.flatten_append,List.take_append_drop]
       rw [h2,List.length_append];omega
      have ht3:(ps.take i).length=i:=by rw [length_take];omega
      have ht4:(raw.take i).length=i:=by rw [length_take];omega
      generalize hPl:1+(raw.take i).flatten.length=P at *
      have zp:(0≤(P:Int))=True:=eq_true (by omega)
      simp(maxSteps:=400000)only[↓ax,ay,BEq.rfl,reduceIte,reduceCtorEq,Nat.reduceLT,reduceAdd,reduceSub,reduceMul,Nat.reduceBEq,reduceLeDiff,reduceToNat,reduceLE,hQ,hlt,hgi,zp,hy,ht3,ht4]
      exact ⟨by omega,by omega,by omega,by have:=hpi.2;omega,hpi.1,by omega,by omega,⟨by omega,by omega⟩,⟨by omega,by omega⟩,m-1,by omega,i+1,v1+1,v2+1,by omega,by
       rw [htn,htk,map_append,map_append,show ((1+(raw.take (i+1)).flatten.length:Nat):Int)=(P:Int)+(p.length:Int) by omega,Int.natCast_add,Int.natCast_one];rfl⟩
    · have hlt:((i:Int)<(ps.length:Int))=False:=eq_false (by omega)
      have hi:i=ps.length:=by omega
      subst hi
      have htk:ps.take ps.length=ps:=take_length
      have htr:raw.take ps.length=raw:=by rw [hpl];exact take_length
      rw [htr,htk]
      simp(maxSteps:=400000)only[↓ax,ay,BEq.rfl,reduceIte,reduceCtorEq,Nat.reduceLT,reduceAdd,reduceSub,reduceMul,Nat.reduceBEq,reduceLeDiff,reduceToNat,reduceLE,hQ,hlt]
      refine aR _ (Weak.freeze 1 0 (zero_le _) _) ?_
      have hr:cO T=gF (ps.map cO):=by rw [hE];simp [k4]
      simp(maxSteps:=400000)only[↓ax,ay,BEq.rfl,reduceIte,reduceCtorEq,Nat.reduceLT,reduceAdd,reduceSub,reduceMul,Nat.reduceBEq,reduceLeDiff,reduceToNat,reduceLE,hQ,Kc,Ke,hg0,n2,k4,↓nX,Db,reduceEq,hr]
      exact ⟨by omega,by omega⟩
def kY:dN:=fun args objs K=>match args with
 | [a0]=>gZ aH a0 (HK.mk:HK fun t=>(jd t)∧K (aD (cO t)) objs 0)
 | _=>False
theorem xG:aF Tryz.prog 11 (kY):=by
 intro args objs K h
 unfold kY at h
 split at h
 · rename_i a0
   obtain ⟨t,rfl,h1,hk⟩:=h
   exact ⟨_,_,_,.pure _ rfl (TJ t.length t (Nat.le_refl _) h1),hk⟩
 · exact h.elim
end Lp
namespace Lp
open Go Go.Proofs
open Nat (reduceAdd reduceLeDiff reduceMul reduceSub)
def manyN (n:Int):Nat:=(min (max n 0) 1000000).toNat
theorem VH (t:bf) (n:Int) (hw:jd t):ah Tryz.prog 14 [aH t,.int .i64 n] [] (dK (List.replicate (manyN n) (cO t))) []:=by
 refine Rx.bg (T:=aQ Tryz.prog [(11,kY)]) 1 hD (aj (af xG ai)) aV (by decide) fun Q hQ=>?_
 have hM:(if (1000000:Int)<(if (0:Int) > n then 0 else n) then (1000000:Int) else if (0:Int) > n then 0 else n)=(manyN n:Int):=by
  unfold manyN
  repeat' split
  all_goals omega
 have hMl:manyN n≤1000000:=by unfold manyN;omega
 generalize manyN n=M at *
 (conv=>arg 4;cbv);simp(maxSteps:=400000)only[↓ax,ay,BEq.rfl,reduceIte,reduceCtorEq,Nat.reduceLT,reduceAdd,reduceSub,reduceMul,Nat.reduceBEq,reduceLeDiff,Int.reduceToNat,Int.reduceLE,hQ,↓kY,hM]
 refine ⟨hw,?_⟩
 refine wP ⟨dh 20 [(5,.aY 0 0),(6,aD (cO t)),(11,.int .i64 M),(12,.int .i64 0)],[⟨28,1,[],true,0⟩]⟩ M ?_ ?_ ?_
  (I:=fun m S=>∃ i v:Nat,i+m=M∧S=⟨dh 20 [(5,.aY 0 v),(6,aD (cO t)),(11,.int .i64 M),(12,.int .i64 i)],[⟨28,1,(List.replicate i (cO t)).map aD,true,v⟩]⟩)
 · simp(maxSteps:=400000)only[↓ax,ay,BEq.rfl,reduceIte,reduceCtorEq,Nat.reduceLT,reduceAdd,reduceSub,reduceMul,Nat.reduceBEq,reduceLeDiff,Int.reduceToNat,Int.reduceLE,List.take_nil]
   refine (Weak.vD 5 28 1 (by rfl)).trans ?_
   rw [mZ.1,E8 (m:=[(5,.aY 0 0),(6,aD (cO t)),(11,.int .i64 M),(12,.int .i64 0)])]
   · exact Weak.refl _ _
   · intro i
     simp only [j4]
     by_cases h5:i=5
     · subst h5;rfl
     · simp only [h5,if_false]
       repeat' split
       all_goals first | rfl | omega
 · exact ⟨0,0,by omega,rfl⟩
 rintro m S ⟨i,v,him,rfl⟩
 rcases Nat.lt_or_ge i M with h | h
 · have hlt:((i:Int)<(M:Int))=True:=eq_true (by omega)
   have hrl:(List.replicate i (cO t)).length=i:=List.length_replicate
   simp(maxSteps:=400000)only[↓ax,ay,BEq.rfl,reduceIte,reduceCtorEq,Nat.reduceLT,reduceAdd,reduceSub,reduceMul,Nat.reduceBEq,reduceLeDiff,Int.reduceToNat,Int.reduceLE,hQ,hlt,hrl]
   exact ⟨by omega,by omega,⟨by omega,by omega⟩,m-1,by omega,i+1,v+1,by omega,by rw [List.replicate_succ',List.map_append,Int.natCast_add,Int.natCast_one];rfl⟩
 · have hi:i=M:=by omega
   subst hi
   have hlt:((i:Int)<(i:Int))=False:=eq_false (by omega)
   simp(maxSteps:=400000)only[↓ax,ay,BEq.rfl,reduceIte,reduceCtorEq,Nat.reduceLT,reduceAdd,reduceSub,reduceMul,Nat.reduceBEq,reduceLeDiff,Int.reduceToNat,Int.reduceLE,hQ,hlt,BL]
def sI:dN:=fun args objs K=>match args with
 | [a0,.int .i64 n]=>gZ aH a0 (HK.mk:HK fun t=>(jd t)∧K (dK (List.replicate (manyN n) (cO t))) objs 0)
 | _=>False
theorem D5:aF Tryz.prog 14 (sI):=by
 intro args objs K h
 unfold sI at h
 split at h
 · rename_i a0 n
   obtain ⟨t,rfl,h1,hk⟩:=h
   exact ⟨_,_,_,.pure _ rfl (VH t n h1),hk⟩
 · exact h.elim
end Lp
namespace Lp
open Go Go.Proofs
def ty1:bf:=[⟨2,1,[],[],0,aM⟩,⟨1,0,[97],[],24,aM⟩]
def ty0:bf:=[⟨0,0,[],[],0,aM⟩]
theorem VI:fK ty1=true:=by decide
theorem VJ:fK ty0=true:=by decide
theorem uJ {t:bf}(h:fK t=true) (hl:t.length≤100000) (hc:∀ n ∈ t,n.c.s.length≤500000∧n.name.length≤4611686018427387904):jd t:=
 ⟨J3 h,hl,fun n hn=>(hc n hn).1,fun n hn=>(hc n hn).2⟩
theorem Sr:jd ty1:=uJ VI (by decide) (by decide)
theorem abj:jd ty0:=uJ VJ (by decide) (by decide)
theorem Sv {t:bf}{k:Nat}(hk:k≤100000) (h:Hg t k=true):jd t∧t.length≤k:=by
 simp only [Hg,Bool.and_eq_true,decide_eq_true_eq,List.all_eq_true] at h
 obtain ⟨⟨h1,h2⟩,h3⟩:=h
 simp only [qI,Bool.and_eq_true] at h3
 refine ⟨uJ h3.1 (by omega) fun n hn=>?_,h1⟩
 have:=h2 n hn
 simp only [jy,Bool.and_eq_true,decide_eq_true_eq] at this
 omega
theorem Zo:cO ty1=[⟨6,1,[],[],false,0⟩,⟨3,0,[97],[],false,0⟩]:=by decide
theorem Zp:cO ty0=[aM]:=by decide
theorem adj (objs:List Obj) (K:KT) :
  (∀ k m,bD D 44 [(0,.int .i64 k),(1,.int .i64 m)] objs K=K (aX ⟨k,m,[],[],0,aM⟩) objs 0)∧
  (∀ k n nm,bD D 44 [(0,.int .i64 k),(4,.int .i64 n),(2,.str nm)] objs K=K (aX ⟨k,0,nm,[],n,aM⟩) objs 0):=by
 have z:aK (D 44)=aX ⟨0,0,[],[],0,aM⟩:=by kernel_rfl
 have a:(D 44).agg=true:=by kernel_rfl
 simp only [bR] at z a
 refine ⟨fun k m=>?_,fun k n nm=>?_⟩
 all_goals
  simp [bD,mP,a,z,bR,nO,aX,au,aM,PV.isAgg,sU,PV.cells,PV.storable,PV.mH,PV.pure]
theorem MG:ah Tryz.prog 9 [] [] (.bool true) []:=by
 refine zI.bg (T:=aQ Tryz.prog [(11,kY),(14,sI)]) 0 hD (aj (af xG (af D5 ai))) aV (by decide) fun Q hQ=>?_
 have e1:([⟨2,1,[],[],0,aM⟩,⟨1,0,[97],[],24,aM⟩]:bf)=ty1:=rfl
 have e0:([⟨0,0,[],[],0,aM⟩]:bf)=ty0:=rfl
 have m3:manyN 3=3:=rfl
 have m0:manyN (-1)=0:=rfl
 (conv=>arg 4;cbv);simp(maxSteps:=400000)only[↓ax,ay,BEq.rfl,reduceIte,reduceCtorEq,Nat.reduceLT,Nat.reduceAdd,Nat.reduceSub,Nat.reduceMul,Nat.reduceBEq,Nat.reduceLeDiff,Int.reduceToNat,Int.reduceLE,hQ,qW,adj,gq,gP,uj,bG,dF,↓kY,↓sI,e1,e0,m3,m0,Zo,Zp]
 refine ⟨Sr,fun _=>⟨Sr,fun _=>⟨Sr,fun _=>⟨abj,rfl⟩,fun h=>absurd rfl h⟩,fun h=>absurd rfl h⟩,fun h=>absurd rfl h⟩
def uK:dN:=fun args objs K=>args=[]∧K (.bool true) objs 0
theorem yA:aF Tryz.prog 9 uK:=by
 rintro args objs K ⟨rfl,hk⟩
 exact ⟨_,_,_,.pure _ rfl MG,hk⟩
theorem f_ (objs:List Obj) (K:KT):uK [] objs K=K (.bool true) objs 0:=propext ⟨fun h=>h.2,fun h=>⟨rfl,h⟩⟩
structure Hq (t:bf):Prop where
 len:t.length≤4611686018427387904
 txt:∀ n ∈ t,n.s.length≤4611686018427387904∧n.name.length≤4611686018427387904∧n.c.s.length≤4611686018427387904
 cnm:∀ n ∈ t,n.c.name.length≤4611686018427387904
end Lp
namespace Lp
open Go Go.Proofs Go.RowKit
end Lp
namespace Lp
open Go Go.Proofs
instance :Inhabited Nd:=⟨⟨0,0,[],[],false,0⟩⟩
structure VK (n:Nd):Prop where
 kind:D_ .i64 n.kind
 many:D_ .i64 n.many
 name:n.name.length≤reachBytes
 s:n.s.length≤reachBytes
 e:D_ .i64 n.e
theorem one_cell {t:TypeId}(hc:Tryz.prog.cellsOf t=1){cs:List Value}{off:Nat}{v:Value}(h:cs[off]?=some v):(cs.drop off).take (Tryz.prog.cellsOf t)=[v]:=by
 rw [hc]
 have hl:=(List.getElem?_eq_some_iff.1 h).1
 rw [show (cs.drop off)=cs[off]::cs.drop (off+1) from List.drop_eq_getElem_cons hl]
 rw [List.getElem?_eq_getElem hl] at h
 cases h
 rw [List.take_succ_cons,List.take_zero]
theorem Kg:Tryz.prog.underlying 3=some (.int .i64):=by kernel_rfl
theorem BN:Tryz.prog.underlying 9=some .string:=by kernel_rfl
theorem abk:Tryz.prog.underlying 4=some .bool:=by kernel_rfl
theorem Kh:Tryz.prog.cellsOf 3=1:=by kernel_rfl
theorem BO:Tryz.prog.cellsOf 9=1:=by kernel_rfl
theorem abl:Tryz.prog.cellsOf 4=1:=by kernel_rfl
theorem abm:∃ fs:Array Field,Tryz.prog.underlying 42=some (.struct fs)∧fs.toList.map (fun f=>(f.offset,f.type))=[(0,3),(1,3),(2,9),(3,9),(4,4),(5,3)]:=
 ⟨Tryz.prog.fieldsOf 42,by kernel_rfl,by kernel_rfl⟩
theorem Zq:Rd Tryz.prog 42 au VK:=by
 intro H eh w fuel cs x h hw
 obtain ⟨fs,ht,hfs⟩:=abm
 obtain ⟨hl,hp⟩:=AA ht h hw
 rw [hfs] at hp
 have hc:Tryz.prog.cellsOf 42=6:=by kernel_rfl
 rw [hc] at hl
 match cs,hl with
 | [v0,v1,v2,v3,v4,v5],_=>
  obtain ⟨n0,y0,a0,b0⟩:=hp 0 0 3 rfl
  obtain ⟨n1,y1,a1,b1⟩:=hp 1 1 3 rfl
  obtain ⟨n2,y2,a2,b2⟩:=hp 2 2 9 rfl
  obtain ⟨n3,y3,a3,b3⟩:=hp 3 3 9 rfl
  obtain ⟨n4,y4,a4,b4⟩:=hp 4 4 4 rfl
  obtain ⟨n5,y5,a5,b5⟩:=hp 5 5 3 rfl
  rw [one_cell Kh (v:=v0) rfl] at a0
  rw [one_cell Kh (v:=v1) rfl] at a1
  rw [one_cell BO (v:=v2) rfl] at a2
  rw [one_cell BO (v:=v3) rfl] at a3
  rw [one_cell abl (v:=v4) rfl] at a4
  rw [one_cell Kh (v:=v5) rfl] at a5
  obtain ⟨k,g0,r0⟩:=Rd.int Kg eh w n0 _ _ a0 b0
  obtain ⟨m,g1,r1⟩:=Rd.int Kg eh w n1 _ _ a1 b1
  obtain ⟨nm,g2,r2⟩:=Rd.str BN eh w n2 _ _ a2 b2
  obtain ⟨s,g3,r3⟩:=Rd.str BN eh w n3 _ _ a3 b3
  obtain ⟨g,_,r4⟩:=Rd.bool abk eh w n4 _ _ a4 b4
  obtain ⟨e,g5,r5⟩:=Rd.int Kg eh w n5 _ _ a5 b5
  refine ⟨⟨k,m,nm,s,g,e⟩,⟨g0,g1,g2,g3,g5⟩,rfl,fun i p v h1 h2=>?_⟩
  match i with
  | 0=>simp [au,PV.cells] at h1 h2;subst h1;subst h2;exact r0.2 0 _ _ rfl rfl
  | 1=>simp [au,PV.cells] at h1 h2;subst h1;subst h2;exact r1.2 0 _ _ rfl rfl
  | 2=>simp [au,PV.cells] at h1 h2;subst h1;subst h2;exact r2.2 0 _ _ rfl rfl
  | 3=>simp [au,PV.cells] at h1 h2;subst h1;subst h2;exact r3.2 0 _ _ rfl rfl
  | 4=>simp [au,PV.cells] at h1 h2;subst h1;subst h2;exact r4.2 0 _ _ rfl rfl
  | 5=>simp [au,PV.cells] at h1 h2;subst h1;subst h2;exact r5.2 0 _ _ rfl rfl
  | i+6=>simp [au,PV.cells] at h1
structure Big (v:Vl):Prop where
 len:v.length≤1152921504606846976
 txt:∀ n ∈ v,n.s.length≤4611686018427387904∧n.name.length≤4611686018427387904
 nd:∀ n ∈ v,VK n
structure adv (l:List Vl):Prop where
 len:l.length≤1152921504606846976
 all:∀ v ∈ l,Big v
theorem adk {t e:TypeId}{α:Type}{enc:α→PV}{good:α→Prop}(hu:Tryz.prog.underlying t=some (.slice e)) (hr:Rd Tryz.prog t enc good) (h1:∀ a,(enc a).cells=[enc a]){H:Type}{eh:TypeId×Value→H}{w:World}{base:Nat}{v:Value}{d:DataW H}{p:List MemPlace}
  (hv:Value.okWide Tryz.prog w .any base t v) (h:DataW.Trod eh Tryz.prog w 0 (fun _=>true) true t v d p) (hw:∀ n ∈ DataW.weights Tryz.prog t d,n≤reachBytes):∃ a:α,good a∧dB w (fun _=>True) (enc a) v:=by
 obtain ⟨ad,len,cap,rfl⟩:=Go.WideShapes.okWide_slice hu hv
 obtain ⟨fuel,h⟩:=h
 obtain ⟨a,g,r⟩:=hr eh w fuel _ _ h hw
 rw [h1 a] at r
 exact ⟨a,g,r.2 0 _ _ rfl rfl⟩
theorem iZ {R:PV→Value→Prop}{p:PV}{ps:List PV}{v:Value}{vs:List Value}(h:R p v) (hs:cu R ps vs):cu R (p::ps) (v::vs):=
 ⟨by simp [hs.1],fun i q u h1 h2=>by
  cases i with
  | zero=>simp at h1 h2;subst h1;subst h2;exact h
  | succ i=>exact hs.2 i q u (by simpa using h1) (by simpa using h2)⟩
theorem Ya {R:PV→Value→Prop}:cu R [] []:=⟨rfl,fun i q u h1=>by simp at h1⟩
end Lp
namespace Lp
open Go Go.Proofs Go.RowKit
structure ado (l:List lJ):Prop where
 len:l.length≤1152921504606846976
 all:∀ a ∈ l,si a.c
end Lp
namespace Lp
open Go Go.Proofs Go.Shelf Go.RowKit Go.Lib Go.ChangeAt
def Yb:List (String×DataW Unit):=[("unicode/utf8.acceptRanges",Lib.acceptData),("unicode/utf8.first",Lib.firstData)]
noncomputable def VL (os:Os):World:=
 let w0:=World.holding Tryz.prog os ⟨#[],#[],[]⟩
 let put (h:Array Go.Obj) (g:Nat) (cs:Array Value):Array Go.Obj:=h.modify g fun
  | .cells _ t frozen=>.cells cs t frozen
  | o=>o
 let h1:=put w0.heap 0 (Lib.firstTab.map fun z=>Value.int .u8 z).toArray
 let h2:=put h1 1 ((List.range 16).flatMap fun i=>[Value.int .u8 (Lib.accLo i),Value.int .u8 (Lib.accHi i)]).toArray
 { w0 with heap:=h2 }
theorem acA (os:Os) (args:Array Value):laidMet Tryz.prog Yb ((VL os).forCall (fun _ _=>0) ⟨#[],args,[]⟩).memory:=
 (LaidIn.of_run (l:=Yb) [1,0] 8 (by kernel_rfl) (by kernel_rfl) (by kernel_rfl) (by kernel_rfl)).met
theorem VN {w W:World}(h:w.heap=W.heap) (hT:Lib.Utf8Tabs 0 1 W):Lib.Utf8Tabs 0 1 w:=by
 have e:∀ b:Nat,w.heap[b]?=W.heap[b]?:=fun b=>by rw [h]
 refine ⟨fun c hc=>?_,fun i hi=>⟨?_,?_⟩⟩
 · rw [oW (e 0)];exact hT.1 c hc
 · rw [oW (e 1)];exact (hT.2 i hi).1
 · rw [oW (e 1)];exact (hT.2 i hi).2
theorem abu {W:World}(h:laidMetH Tryz.prog Yb W):qK.holds W.heap:=by
 have hT:Lib.Utf8Tabs 0 1 W:=
  utf8Tabs_of_readsT (U8Types.of196 Tryz.K4) ⟨by kernel_rfl,by kernel_rfl,by kernel_rfl,by kernel_rfl,by kernel_rfl,by kernel_rfl,by kernel_rfl⟩ (Lib.laidMet.reads h (.tail _ (.head _))) (Lib.laidMet.reads h (.head _))
 intro w hw
 exact VN hw hT
structure adw (l:List (List UInt8)):Prop where
 len:l.length≤1152921504606846976
 all:∀ s ∈ l,s.length≤4611686018427387904
end Lp
namespace Lp
open Go Go.Proofs
instance :Inhabited lJ:=⟨⟨0,⟨0,0,[],[],false,0⟩⟩⟩
structure adx (a:lJ):Prop where
 n:D_ .i64 a.n
 c:VK a.c
theorem VK.sm {n:Nd}(h:VK n):si n:=by
 have h1:=h.name
 have h2:=h.s
 rw [reachBytes] at h1 h2
 exact ⟨by omega,by omega⟩
section
variable {H:Type}{eh:TypeId×Value→H}{w:World}{base:Nat}{v:Value}{d:DataW H}{p:List MemPlace}
end
end Lp
namespace Lp
open Go Go.Proofs
theorem adl:∃ fs:Array Field,Tryz.prog.underlying 44=some (.struct fs)∧fs.toList.map (fun f=>(f.offset,f.type))=[(0,3),(1,3),(2,9),(3,9),(4,3),(5,42)]:=
 ⟨Tryz.prog.fieldsOf 44,by kernel_rfl,by kernel_rfl⟩
instance :Inhabited fe:=⟨⟨0,0,[],[],0,⟨0,0,[],[],false,0⟩⟩⟩
structure adm (a:fe):Prop where
 name:a.name.length≤reachBytes
 s:a.s.length≤reachBytes
 c:VK a.c
theorem acB:Rd Tryz.prog 44 aX adm:=by
 intro H eh w fuel cs x h hw
 obtain ⟨fs,ht,hfs⟩:=adl
 obtain ⟨hl,hp⟩:=AA ht h hw
 rw [hfs] at hp
 have hc:Tryz.prog.cellsOf 44=11:=by kernel_rfl
 rw [hc] at hl
 match cs,hl with
 | [v0,v1,v2,v3,v4,v5,v6,v7,v8,v9,v10],_=>
  obtain ⟨n0,y0,a0,b0⟩:=hp 0 0 3 rfl
  obtain ⟨n1,y1,a1,b1⟩:=hp 1 1 3 rfl
  obtain ⟨n2,y2,a2,b2⟩:=hp 2 2 9 rfl
  obtain ⟨n3,y3,a3,b3⟩:=hp 3 3 9 rfl
  obtain ⟨n4,y4,a4,b4⟩:=hp 4 4 3 rfl
  obtain ⟨n5,y5,a5,b5⟩:=hp 5 5 42 rfl
  have hcd:Tryz.prog.cellsOf 42=6:=by kernel_rfl
  rw [hcd] at a5
  rw [one_cell Kh (v:=v0) rfl] at a0
  rw [one_cell Kh (v:=v1) rfl] at a1
  rw [one_cell BO (v:=v2) rfl] at a2
  rw [one_cell BO (v:=v3) rfl] at a3
  rw [one_cell Kh (v:=v4) rfl] at a4
  obtain ⟨k,g0,r0⟩:=Rd.int Kg eh w n0 _ _ a0 b0
  obtain ⟨m,g1,r1⟩:=Rd.int Kg eh w n1 _ _ a1 b1
  obtain ⟨nm,g2,r2⟩:=Rd.str BN eh w n2 _ _ a2 b2
  obtain ⟨s,g3,r3⟩:=Rd.str BN eh w n3 _ _ a3 b3
  obtain ⟨n,g4,r4⟩:=Rd.int Kg eh w n4 _ _ a4 b4
  obtain ⟨c,g5,r5⟩:=Zq eh w n5 _ _ a5 b5
  refine ⟨⟨k,m,nm,s,n,c⟩,⟨g2,g3,g5⟩,?_⟩
  exact iZ (r0.2 0 _ _ rfl rfl) (iZ (r1.2 0 _ _ rfl rfl) (iZ (r2.2 0 _ _ rfl rfl) (iZ (r3.2 0 _ _ rfl rfl) (iZ (r4.2 0 _ _ rfl rfl)
   (iZ (r5.2 0 _ v5 rfl rfl) (iZ (r5.2 1 _ v6 rfl rfl) (iZ (r5.2 2 _ v7 rfl rfl) (iZ (r5.2 3 _ v8 rfl rfl) (iZ (r5.2 4 _ v9 rfl rfl) (iZ (r5.2 5 _ v10 rfl rfl) Ya))))))))))
theorem abn:Tryz.prog.underlying 23=some (.slice 44):=by kernel_rfl
theorem acE:Rd Tryz.prog 23 aH Hq:=by
 intro H eh w fuel cs x h hw
 obtain ⟨v,⟨h1,h2⟩,h3⟩:=Rd.slice (sz:=11) abn acB (by kernel_rfl) (by decide) (fun _=>rfl) eh w fuel cs x h hw
 have hb:Tryz.prog.bytesOf 44=120:=by kernel_rfl
 rw [hb,reachBytes] at h1
 refine ⟨v,⟨by omega,fun n hn=>?_,fun n hn=>?_⟩,h3⟩
 · have g:=h2 n hn
   have g1:=g.name
   have g2:=g.s
   have g3:=g.c.s
   rw [reachBytes] at g1 g2 g3
   exact ⟨by omega,by omega,by omega⟩
 · have g:=(h2 n hn).c.name
   rw [reachBytes] at g
   omega
end Lp
namespace Lp
open Go Go.Proofs
theorem Yc (d n:Nat) (O:List Obj) (t:TypeId) (sz:Nat) (x:fe) (ver:Nat):fu d n O ⟨t,sz,[aX x],true,ver⟩=⟨t,sz,[aX x],true,ver⟩:=TA d n O t sz [x] ver
theorem PS (d n:Nat) (O:List Obj) (t:TypeId) (sz:Nat) (x:fe) (A B:List fe) (ver:Nat):fu d n O ⟨t,sz,aX x::(A.map aX++B.map aX),true,ver⟩=⟨t,sz,aX x::(A.map aX++B.map aX),true,ver⟩:=by
 rw [← List.map_append];exact TA d n O t sz (x::(A++B)) ver
theorem acC:∀ d X v,eP d 2 X (.aY 1 v)=.aY 1 v:=fun _ _ _=>rfl
theorem Zr (o:Obj) (x:fe) (q:bf) (ver:Nat) (t:TypeId) (rest:List Obj):eP 1 0 (o::⟨t,11,aX x::q.map aX,true,ver⟩::rest) (.aY 1 ver)=aH (x::q):=by
 have e:(aX x::q.map aX).map (PV.bC (fG 0 0 (o::⟨t,11,aX x::q.map aX,true,ver⟩::rest)))=aX x::q.map aX:=Hl _ (fun _=>rfl) (x::q)
 simp only [eP,Nat.not_lt_zero,if_false,fG,List.getElem?_cons_succ,List.getElem?_cons_zero,Nat.zero_le,decide_true,Bool.true_and,beq_self_eq_true,if_true,e]
 rfl
theorem PU (t:fe) (ps:List bf) (hl:ps.length≤100000) (hf:ps.flatten.length≤1000000) :
  ah Tryz.prog 21 [aX t,.sl 0 [] (some true),jE ps] [] (aH (jm t ps)) []:=by
 refine Bz.bg (T:=aQ Tryz.prog []) 1 hD (aj ai) aV (by decide) fun Q hQ=>?_
 (conv=>arg 4;cbv);simp(maxSteps:=400000)only[↓ax,ay,BEq.rfl,reduceIte,reduceCtorEq,Nat.reduceLT,Nat.reduceAdd,Nat.reduceSub,Nat.reduceMul,Nat.reduceBEq,Nat.reduceLeDiff,Int.reduceToNat,Int.reduceLE,hQ,qW,gq,gP,uj,bG,dF]
 refine aA (fun m S=>∃ (i ver:Nat),i+m=ps.length∧S=⟨dh 56 [(1,.sl 0 [] (some true)),(2,jE ps),(7,.aY 1 ver),(8,.int .i64 i)],[⟨44,11,[aX { t with many:=ps.length }],true,1⟩,⟨44,11,(({ t with many:=ps.length }:fe)::(ps.take i).flatten).map aX,true,ver⟩]⟩) ps.length (hz:=Nat.zero_le _) ⟨0,1,by omega,?_⟩ ?_
 · simp only [bJ,keepR,Nat.reduceAdd,kU,Nat.reduceBEq,List.map_nil]
   rfl
 rintro m S ⟨i,ver,him,rfl⟩
 have zi:(0≤(i:Int))=True:=eq_true (by omega)
 rcases Nat.lt_or_ge i ps.length with h | h
 · have hlt:((i:Int)<(ps.length:Int))=True:=eq_true (by omega)
   have hgi:=List.getElem?_eq_getElem h
   have hpl:(ps.take i).flatten.length+(ps[i]).length≤ps.flatten.length:=by
    have:ps.take (i+1)=ps.take i++[ps[i]]:=by rw [List.take_add_one,hgi];rfl
    have h2:ps.flatten=(ps.take (i+1)).flatten++(ps.drop (i+1)).flatten:=by rw [← List.flatten_append,List.take_append_drop]
    rw [h2,this]
    simp only [List.flatten_append,List.length_append,List.flatten_cons,List.flatten_nil,List.append_nil]
    omega
   generalize hp:ps[i]=p at hgi hpl
   have htk:(ps.take (i+1)).flatten=(ps.take i).flatten++p:=by
    rw [List.take_add_one,hgi];simp
   have c0:((i:Int)<((0:Nat):Int))=False:=eq_false (by omega)
   have c1:((i:Int)<0)=False:=eq_false (by omega)
   simp(maxSteps:=400000)only[↓ax,ay,BEq.rfl,reduceIte,reduceCtorEq,Nat.reduceLT,Nat.reduceAdd,Nat.reduceSub,Nat.reduceMul,Nat.reduceBEq,Nat.reduceLeDiff,Int.reduceToNat,Int.reduceLE,hQ,hlt,zi,hgi,c0,c1,Yc,PS,acC,List.take_succ_cons,List.take_zero]
   exact ⟨rfl,rfl,by omega,by omega,⟨by omega,by omega⟩,m-1,by omega,i+1,ver+1,by omega,by rw [htk,List.map_append,Int.natCast_add,Int.natCast_one,PS]⟩
 · have hlt:((i:Int)<(ps.length:Int))=False:=eq_false (by omega)
   have hi:i=ps.length:=by omega
   subst hi
   have e:ps.take ps.length=ps:=List.take_length
   simp(maxSteps:=400000)only[↓ax,ay,BEq.rfl,reduceIte,reduceCtorEq,Nat.reduceLT,Nat.reduceAdd,Nat.reduceSub,Nat.reduceMul,Nat.reduceBEq,Nat.reduceLeDiff,Int.reduceToNat,Int.reduceLE,hQ,hlt,e,Zr]
   rfl
def lC:dN:=fun args objs K=>match args with
 | [a0,a1,a2]=>gZ aX a0 (HK.mk:HK fun t=>gZ jE a2 (HK.mk:HK fun ps=>a1=(.sl 0 [] (some true))∧(ps.length≤100000)∧(ps.flatten.length≤1000000)∧K (aH (jm t ps)) objs 0))
 | _=>False
theorem BP:aF Tryz.prog 21 (lC):=by
 intro args objs K h
 unfold lC at h
 split at h
 · rename_i a0 a1 a2
   obtain ⟨t,rfl,ps,rfl,rfl,h1,h2,hk⟩:=h
   exact ⟨_,_,_,.pure _ rfl (PU t ps h1 h2),hk⟩
 · exact h.elim
end Lp
namespace Lp
open Go Go.Proofs
open Nat (reduceAdd reduceLeDiff reduceMul reduceSub)
open Int (reduceLE reduceToNat)
theorem MH {k:Int}{ps:List bf}(hk:k=3∨k=4∨k=5∨k=6) (h1:k≠4→ps.length=1) (hl:ps.flatten.length+1≤100000) (hp:∀ p ∈ ps,jd p):jd (jm ⟨k,0,[],[],0,aM⟩ ps):=by
 refine ⟨Yn hk h1 rfl rfl rfl rfl fun p h=>(hp p h).rt,by simp only [jm,List.length_cons];exact hl,fun n hn=>?_,fun n hn=>?_⟩
 · rcases List.mem_cons.1 hn with rfl | hn
   · exact Nat.zero_le _
   · obtain ⟨p,h1,h2⟩:=List.mem_flatten.1 hn
     exact (hp p h1).cs n h2
 · rcases List.mem_cons.1 hn with rfl | hn
   · exact Nat.zero_le _
   · obtain ⟨p,h1,h2⟩:=List.mem_flatten.1 hn
     exact (hp p h1).nm n h2
theorem tyK (k:Int) (objs:List Obj) (K:KT):bD D 44 [(0,.int .i64 k)] objs K=K (aX ⟨k,0,[],[],0,aM⟩) objs 0:=(qW objs K).2.2.2.2.1 k
theorem Hr {k:Int}{ps:List bf}(hk:k=3∨k=4∨k=5∨k=6) (h:jd (jm ⟨k,0,[],[],0,aM⟩ ps)) (hp:∀ p ∈ ps,jd p) :
  cO (jm ⟨k,0,[],[],0,aM⟩ ps)=if k=3 then [⟨6,0,[],[],false,0⟩] else if k=4 then gF (ps.map cO) else gF []:=by
 have e:=ED h.rt
 have e2:bH (jm ⟨k,0,[],[],0,aM⟩ ps)=ps:=P9 (by show k≠1;omega) fun p h=>(hp p h).rt
 rw [show jm ⟨k,0,[],[],0,aM⟩ ps={ (⟨k,0,[],[],0,aM⟩:fe) with many:=ps.length }::ps.flatten from rfl] at e2 ⊢
 rw [e]
 simp only [e2]
 rw [if_neg (by omega),if_neg (by omega)]
 split
 · rfl
 · rw [if_neg (by omega)]
theorem Zt {x:Int}(h:D_ .i64 x):IntKind.i64.wrap x=x:=by
 simp only [D_] at h
 rw [IntKind.wrap_i64];omega
theorem MI (t u:bf) (b:Int) (hb:0≤b∧b≤255) (hr:Hq t) (hru:Hq u):ah Tryz.prog 7 [aH t,aH u,.int .u8 b] [] (.bool true) []:=by
 refine wC.bg (T:=aQ Tryz.prog [(9,uK),(8,mr),(11,kY),(10,oJ),(14,sI),(21,lC),(22,nW)]) 0 hD (aj (af yA (af DY (af xG (af Gg (af D5 (af BP (af DZ ai)))))))) aV (by decide) fun Q hQ=>?_
 have t60:Int.toNat 60=60:=rfl
 cases hf:Hg t 60 with
 | false=>
  (conv=>arg 4;cbv);simp(maxSteps:=400000)only[↓ax,ay,BEq.rfl,reduceIte,reduceCtorEq,Nat.reduceLT,reduceAdd,reduceSub,reduceMul,Nat.reduceBEq,reduceLeDiff,reduceToNat,reduceLE,hQ,↓f_,↓mr,t60,hf]
  exact ⟨hr.len,hr.txt,hr.cnm⟩
 | true=>
  obtain ⟨hw,hl⟩:=Sv (by decide) hf
  cases hfu:Hg u 60 with
  | false=>
   (conv=>arg 4;cbv);simp(maxSteps:=400000)only[↓ax,ay,BEq.rfl,reduceIte,reduceCtorEq,Nat.reduceLT,reduceAdd,reduceSub,reduceMul,Nat.reduceBEq,reduceLeDiff,reduceToNat,reduceLE,hQ,↓f_,↓mr,t60,hf,hfu]
   exact ⟨hr.len,hr.txt,hr.cnm,hru.len,hru.txt,hru.cnm⟩
  | true=>
   obtain ⟨hwu,hlu⟩:=Sv (by decide) hfu
   have hc0:0≤b.tmod 100∧b.tmod 100≤99:=by rw [Int.tmod_eq_emod_of_nonneg hb.1];omega
   have hwr:IntKind.i64.wrap (b.tmod 100)=b.tmod 100:=Zt (by simp only [D_];omega)
   have adn:((100:Int)=0)=False:=eq_false (by omega)
   generalize hcc:b.tmod 100=c at *
   have hM:(manyN c:Int)=c:=by unfold manyN;omega
   have hMl:manyN c≤99:=by omega
   have hwl:=rz hw.rt
   have ady:=rz hwu.rt
   have hq:∀ p ∈ [t,u],jd p:=fun p hp=>by
    rcases List.mem_cons.1 hp with rfl | hp
    · exact hw
    · rw [List.mem_singleton.1 hp];exact hwu
   have hfl:([t,u]:List bf).flatten.length≤120:=by simp only [List.flatten_cons,List.flatten_nil,List.length_append,List.length_nil];omega
   have hmo:jd (jm ⟨4,0,[],[],0,aM⟩ [t,u]):=MH (.inr (.inl rfl)) (fun h=>absurd rfl h) (by omega) hq
   have hmw:cO (jm ⟨4,0,[],[],0,aM⟩ [t,u])=gF [cO t,cO u]:=(Hr (.inr (.inl rfl)) hmo hq).trans rfl
   have d1:decide (cO t=cO t)=true:=decide_eq_true rfl
   have d2:decide (gF [cO t,cO u]=gF [cO t,cO u])=true:=decide_eq_true rfl
   generalize hMM:manyN c=M at *
   (conv=>arg 4;cbv);simp(maxSteps:=400000)only[↓ax,ay,BEq.rfl,reduceIte,reduceCtorEq,Nat.reduceLT,reduceAdd,reduceSub,reduceMul,Nat.reduceBEq,reduceLeDiff,reduceToNat,reduceLE,hQ,↓f_,↓mr,t60,hf,hfu,↓sI,↓kY,cv8,hwr,adn,hcc,hMM]
   refine ⟨hr.len,hr.txt,hr.cnm,hru.len,hru.txt,hru.cnm,hw,hw,?_⟩
   refine aA (fun m S=>∃ i:Nat,i+m=M∧S=⟨dh 64 [(0,aH t),(1,aH u),(7,.int .i64 c),(8,dK (List.replicate M (cO t))),(9,aD (cO t)),(10,.int .i64 i)],[]⟩) M ⟨0,by omega,?_⟩ ?_
   · simp only [bJ,keepR,reduceAdd,kU,Nat.reduceBEq,List.map_nil]
     rfl
   rintro m S ⟨i,him,rfl⟩
   have zi:(0≤(i:Int))=True:=eq_true (by omega)
   have hrl:(List.replicate M (cO t)).length=M:=List.length_replicate
   rcases Nat.lt_or_ge i M with h | h
   · have hlt:((i:Int)<(M:Int))=True:=eq_true (by omega)
     have hgi:(List.replicate M (cO t))[i]?=some (cO t):=by rw [List.getElem?_replicate];simp [h]
     simp(maxSteps:=400000)only[↓ax,ay,BEq.rfl,reduceIte,reduceCtorEq,Nat.reduceLT,reduceAdd,reduceSub,reduceMul,Nat.reduceBEq,reduceLeDiff,reduceToNat,reduceLE,hQ,hrl,hlt,zi,hgi,↓oJ,d1]
     exact ⟨by omega,by omega,⟨by omega,by omega⟩,m-1,by omega,i+1,by omega,by rw [Int.natCast_add,Int.natCast_one]⟩
   · have hlt:((i:Int)<(M:Int))=False:=eq_false (by omega)
     have d3:((M:Int)=c)=True:=eq_true hM
     simp(maxSteps:=400000)only[↓ax,ay,BEq.rfl,reduceIte,reduceCtorEq,Nat.reduceLT,reduceAdd,reduceSub,reduceMul,Nat.reduceBEq,reduceLeDiff,reduceToNat,reduceLE,hQ,hrl,hlt,↓f_,tyK,gq,gP,uj,bG,dF,↓lC,↓kY,hmw,d3,↓nW,Db,↓oJ,d2]
     have hf2:([cO t,cO u]:List Vl).flatten.length≤120:=by simp only [List.flatten_cons,List.flatten_nil,List.length_append,List.length_nil];omega
     have hf3:(gF [cO t,cO u]).length≤121:=by simp only [gF,List.length_cons];omega
     exact ⟨by omega,hmo,hwu,by omega,by omega,by omega⟩
end Lp
namespace Lp
open Go Go.Proofs
theorem Zu (t u:bf) (n:Int) (hr:Hq t) (hu:Hq u) (hb:0≤n∧n≤255):ah Tryz.prog 7 [aH t,aH u,.int .u8 n] [] (.bool true) []:=MI t u n hb hr hu
theorem TL:Tryz.prog.underlying 5=some (.int .u8):=by kernel_rfl
theorem adp {H:Type}{eh:TypeId×Value→H}{w:World}{base:Nat}{d:DataW H}{p:List MemPlace}{v:Value}(hv:Value.okWide Tryz.prog w .any base 5 v) (h:DataW.Trod eh Tryz.prog w 0 (fun _=>true) true 5 v d p) (hw:∀ n ∈ DataW.weights Tryz.prog 5 d,n≤reachBytes) :
  ∃ a:Int,(0≤a∧a≤255)∧dB w (fun _=>True) (.int .u8 a) v:=by
 obtain ⟨n,rfl⟩:=Go.WideShapes.okWide_int TL hv
 obtain ⟨fuel,h⟩:=h
 obtain ⟨a,g,r⟩:=Rd.int TL eh w fuel _ _ h hw
 exact ⟨a,by simpa [D_] using g,r.2 0 _ _ rfl rfl⟩
end Lp
namespace Lp
open Go
theorem gQ {a b:Bool}(ha:a=true) (hb:b=true):(a && b)=true:=by rw [ha,hb];rfl
theorem abv {P:Program}{f:FuncId}{fn:Func}{s:ChangeSpec}{c:OpenClaim}
  (h0:(c.wf (OpenSpec.ofChange s))=true)
  (h1:(laidOutB P)=true)
  (h2:(mapsRowed P)=true)
  (h3:(fn.params.all (P.readableRec ·))=true)
  (h4:(namedTie P c.named s.vars)=true)
  (h5:((c.stops==[]))=true)
  (h6:((P.stops==[]))=true)
  (h7:((c.knobs==[]))=true)
  (h8:((P.stopKnobs==[]))=true)
  (h9:((c.inPlace==P.inPlace f))=true)
  (h10:((c.unfollowed==P.unfollowed f))=true)
  (h11:((c.recurses==P.recurses f))=true)
  (h12:((c.named==P.varsNamed f))=true)
  (h13:((c.maps==(fn.params.toList++s.plain.varTypes P).any (P.mapsRec ·)))=true)
  (h14:((c.ifaces==(fn.params.toList++s.plain.varTypes P).any (P.ifacesRec ·)))=true)
  (h15:((c.mapsOut==P.mapsAmong fn.resultTypes.toList))=true)
  (h16:((c.loops==(fn.params.toList++s.plain.varTypes P).any (P.loopsFrom ·)))=true)
  (h17:((c.wideKeys==(fn.params.toList++s.plain.varTypes P++fn.resultTypes.toList).any (P.wideKeysFrom ·)))=true)
  (h18:(s.vars.all (P.varReadable ·))=true)
  (h19:(fn.resultTypes.all (fun t=>P.readableRec t && decide (t<P.types.size)))=true)
  (h20:((c.ifacesOut==fn.resultTypes.toList.any (P.ifacesRec ·)))=true)
  (h21:((c.loopsOut==fn.resultTypes.toList.any (P.loopsFrom ·)))=true)
  (h22:((c.plainKeys==P.plainKeys))=true)
  (h23:(c.shortTexts.isNone)=true)
  (h24:(P.stopsHeard)=true)
  (h25:(P.mayEnter)=true)
  (h26:((c.lifted==P.liftsFinal))=true)
  (h27:((P.make==some c.make))=true)
  (h28:((c.kinds==(if c.domain.isEmpty then [] else fn.params.toList.map fun t=>match P.underlying t with | some (.int k)=>some k | _=>none)))=true)
  (h29:((c.pinned==c.pinnedBy))=true)
  (h30:((c.veiled==(fn.params.toList++s.plain.varTypes P++fn.resultTypes.toList).any (P.veiledRec ·)))=true)
  (h31:(c.veiledFits P fn.params.toList (fn.params.toList++s.plain.varTypes P++fn.resultTypes.toList))=true):joinedFacts P f fn s c=true:=by
 unfold joinedFacts
 exact (gQ (gQ (gQ (gQ (gQ (gQ (gQ (gQ (gQ (gQ (gQ (gQ (gQ (gQ (gQ (gQ (gQ (gQ (gQ (gQ (gQ (gQ (gQ (gQ (gQ (gQ (gQ (gQ (gQ (gQ (gQ h0 h1) h2) h3) h4) h5) h6) h7) h8) h9) h10) h11) h12) h13) h14) h15) h16) h17) h18) h19) h20) h21) h22) h23) h24) h25) h26) h27) h28) h29) h30) h31)
end Lp
namespace Lp
open Go Go.Proofs
theorem uX:aO Tryz.prog 6 93 [.tmp 2] (gen [19] [(121,none)] [10] Tryz.f6):=a_ Tryz.func6 rfl (by kernel_rfl)
end Lp
namespace Lp
open Go Go.Proofs
open Nat (reduceAdd reduceLeDiff reduceMul reduceSub)
open Int (reduceEq reduceLE reduceToNat)
theorem Jj (t:bf) (hr:Hq t):ah Tryz.prog 6 [aH t] [] (.bool true) []:=by
 refine uX.bg (T:=aQ Tryz.prog [(9,uK),(8,mr),(11,kY),(10,oJ),(20,uG),(24,uH),(21,lC),(22,nW),(23,oO)]) 0 hD (aj (af yA (af DY (af xG (af Gg (af Jc (af Jd (af BP (af DZ (af Eo ai)))))))))) aV (by decide) fun Q hQ=>?_
 have t60:Int.toNat 60=60:=rfl
 cases hf:Hg t 60 with
 | false=>
  (conv=>arg 4;cbv);simp(maxSteps:=400000)only[↓ax,ay,BEq.rfl,reduceIte,reduceCtorEq,Nat.reduceLT,reduceAdd,reduceSub,reduceMul,Nat.reduceBEq,reduceLeDiff,reduceToNat,reduceLE,hQ,↓f_,↓mr,t60,hf]
  exact ⟨hr.len,hr.txt,hr.cnm⟩
 | true=>
  obtain ⟨hw,hl⟩:=Sv (by decide) hf
  obtain ⟨n,r,rfl⟩:∃ n r,t=n::r:=by
   cases t with
   | nil=>exact absurd rfl hw.rt.one.ne
   | cons n r=>exact ⟨n,r,rfl⟩
  have ho:=hw.rt.one
  have hwp:=hw.part
  have hwl:=PE hw
  have hE:=ED hw.rt
  have hg0:(n::r)[0]?=some n:=rfl
  have hN:=hw.names
  have hNo:=hw.rt.names
  have hwt:=rz hw.rt
  have hq:∀ p ∈ [n::r],jd p:=fun p hp=>by rw [List.mem_singleton.1 hp];exact hw
  have hfl:([n::r]:List bf).flatten.length≤60:=by simp only [List.flatten_cons,List.flatten_nil,List.append_nil];exact hl
  have hm5:jd (jm ⟨5,0,[],[],0,aM⟩ [n::r]):=MH (by omega) (fun _=>rfl) (by omega) hq
  have hw5:cO (jm ⟨5,0,[],[],0,aM⟩ [n::r])=gF []:=(Hr (by omega) hm5 hq).trans rfl
  have hm3:jd (jm ⟨3,0,[],[],0,aM⟩ [n::r]):=MH (by omega) (fun _=>rfl) (by omega) hq
  have hw3:cO (jm ⟨3,0,[],[],0,aM⟩ [n::r])=[⟨6,0,[],[],false,0⟩]:=(Hr (by omega) hm3 hq).trans rfl
  generalize hps:bH (n::r)=ps at *
  generalize hT:n::r=T at *
  generalize hM5:jm ⟨5,0,[],[],0,aM⟩ [T]=M5 at *
  generalize hM3:jm ⟨3,0,[],[],0,aM⟩ [T]=M3 at *
  (conv=>arg 4;cbv);simp(maxSteps:=400000)only[↓ax,ay,BEq.rfl,reduceIte,reduceCtorEq,Nat.reduceLT,reduceAdd,reduceSub,reduceMul,Nat.reduceBEq,reduceLeDiff,reduceToNat,reduceLE,hQ,↓f_,↓mr,t60,hf,↓kY,↓uG,hps]
  refine ⟨hr.len,hr.txt,hr.cnm,hw,ho,by omega,?_⟩
  have hTl:T.length=r.length+1:=by rw [← hT];rfl
  refine aA (fun m S=>∃ (i ver:Nat),i+m=ps.length∧S=⟨dh 93 [(0,aH T),(3,aD (cO T)),(4,jE ps),(5,.aY 0 ver),(6,.int .i64 i)],[⟨28,1,((ps.take i).map cO).map aD,true,ver⟩]⟩) ps.length ⟨0,1,by omega,?_⟩ ?_
  · simp only [bJ,keepR,reduceAdd,kU,Nat.reduceBEq,List.map_nil]
    rfl
  rintro m S ⟨i,ver,him,rfl⟩
  have zi:(0≤(i:Int))=True:=eq_true (by omega)
  rcases Nat.lt_or_ge i ps.length with h' | h'
  · have hlt:((i:Int)<(ps.length:Int))=True:=eq_true (by omega)
    have hgi:=List.getElem?_eq_getElem h'
    have hpi:=hwp _ (List.getElem_mem h')
    generalize ps[i]=p at hgi hpi
    have htk:(ps.take (i+1)).map cO=(ps.take i).map cO++[cO p]:=by rw [List.take_add_one,hgi];simp
    have ht3:(ps.take i).length=i:=by rw [List.length_take];omega
    simp(maxSteps:=400000)only[↓ax,ay,BEq.rfl,reduceIte,reduceCtorEq,Nat.reduceLT,reduceAdd,reduceSub,reduceMul,Nat.reduceBEq,reduceLeDiff,reduceToNat,reduceLE,hQ,hlt,zi,hgi,↓kY]
    exact ⟨hpi.1,by rw [ht3];omega,by rw [ht3];omega,⟨by omega,by omega⟩,m-1,by omega,i+1,ver+1,by omega,by rw [htk,List.map_append,Int.natCast_add,Int.natCast_one];rfl⟩
  · have hlt:((i:Int)<(ps.length:Int))=False:=eq_false (by omega)
    have hi:i=ps.length:=by omega
    subst hi
    have htk:ps.take ps.length=ps:=List.take_length
    have d5:decide (gF []=gF [])=true:=decide_eq_true rfl
    have d3:decide (([⟨6,0,[],[],false,0⟩]:Vl)=[⟨6,0,[],[],false,0⟩])=true:=decide_eq_true rfl
    have dw:decide (cO T=cO T)=true:=decide_eq_true rfl
    have l5:(gF []).length=1:=rfl
    have f0:([]:List Vl).flatten.length≤1000000:=Nat.zero_le _
    have l6:(gF []).length≤1000000:=by rw [l5];decide
    rw [htk]
    simp(maxSteps:=400000)only[↓ax,ay,BEq.rfl,reduceIte,reduceCtorEq,Nat.reduceLT,reduceAdd,reduceSub,reduceMul,Nat.reduceBEq,reduceLeDiff,reduceToNat,reduceLE,hQ,hlt]
    refine aR _ (Weak.freeze 1 0 (Nat.zero_le _) _) ?_
    by_cases k2:n.kind=2
    · have hr2:cO T=gG (gI T) (ps.map cO):=by rw [hE];simp [k2]
      have he:u7 (gI T) (ps.map cO)=0:=by rw [u7,if_pos];rw [List.length_map];exact (hNo k2).1
      rw [hr2] at dw hwt
      simp(maxSteps:=400000)only[↓ax,ay,BEq.rfl,reduceIte,reduceCtorEq,Nat.reduceLT,reduceAdd,reduceSub,reduceMul,Nat.reduceBEq,reduceLeDiff,reduceToNat,reduceLE,hQ,BL,hg0,tyK,gq,gP,uj,bG,dF,bA,bB,uP,uQ,↓lC,hM5,hM3,↓kY,hw5,hw3,↓nW,Db,Mx,↓oJ,d5,d3,↓f_,reduceEq,k2,↓uH,↓oO,fV,he,hr2,dw]
      refine ⟨by omega,hm5,by omega,hm3,f0,l6,l6,ho,by omega,by have:=hN.1;omega,by omega,by omega,fun v hv=>?_,hN.2,by omega,by omega⟩
      obtain ⟨q,hq',rfl⟩:=List.mem_map.1 hv
      exact (rz (hwp q hq').1.rt).2
    have n2:=eq_false k2
    by_cases k4:n.kind=4
    · have hr4:cO T=gF (ps.map cO):=by rw [hE];simp [k4]
      rw [hr4] at dw hwt
      simp(maxSteps:=400000)only[↓ax,ay,BEq.rfl,reduceIte,reduceCtorEq,Nat.reduceLT,reduceAdd,reduceSub,reduceMul,Nat.reduceBEq,reduceLeDiff,reduceToNat,reduceLE,hQ,BL,hg0,tyK,gq,gP,uj,bG,dF,bA,bB,uP,uQ,↓lC,hM5,hM3,↓kY,hw5,hw3,↓nW,Db,Mx,↓oJ,d5,d3,↓f_,reduceEq,n2,k4,hr4,dw]
      exact ⟨by omega,hm5,by omega,hm3,f0,l6,l6,by omega,by omega,by omega,by omega⟩
    have n4:=eq_false k4
    have h1:(cO T).length=1:=by
     rw [hE,if_neg k2,if_neg k4]
     repeat' split
     all_goals rfl
    have h1':(((cO T).length:Int)=1)=True:=eq_true (by omega)
    simp(maxSteps:=400000)only[↓ax,ay,BEq.rfl,reduceIte,reduceCtorEq,Nat.reduceLT,reduceAdd,reduceSub,reduceMul,Nat.reduceBEq,reduceLeDiff,reduceToNat,reduceLE,hQ,BL,hg0,tyK,gq,gP,uj,bG,dF,bA,bB,uP,uQ,↓lC,hM5,hM3,↓kY,hw5,hw3,↓nW,Db,Mx,↓oJ,d5,d3,↓f_,reduceEq,n2,n4,h1']
    exact ⟨by omega,hm5,by omega,hm3,f0,l6,l6⟩
end Lp
namespace Lp
open Go Go.Proofs
theorem Yj (t:bf) (hr:Hq t):ah Tryz.prog 6 [aH t] [] (.bool true) []:=Jj t hr
end Lp
