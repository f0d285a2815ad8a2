/-
  Part 6 of what the statement rests on: LpE6, LpTC1, LpTR, LpE7, LpE8, LpTC2, LpTB4, LpTD1, LpTF0, LpTF2, LpTE1, LpTE2, LpTE3, LpTF3, LpTF4, LpTF5, LpE9, LpRd, LpMA1, LpTie, LpRdA, LpRdY, LpH22, LpTG0, LpX2, LpD13, LpMf, LpX3, LpC11, LpC12, LpTG1, LpTG2, LpTG3, LpTG4, LpTG5, LpTG6, LpRdI15, LpJn, LpRdS15. No condition.
-/
import Derived.Test.YtfgfjbcoeakonaaGreatDoorLp5
import Derived.Laws.IdiomStrings
import Derived.WalkKit
import Derived.Sort.Row
import Derived.Lib.LaidIn
import Derived.Lib.LaidU8T
import Derived.Deep.DeepHandedRow
import Derived.Deep.DeepWitnessRowRef
import Derived.ProofKit
import Derived.SizedLaws
import Derived.JoinedCond
import Derived.OpenShut
import Derived.JoinedOf

set_option linter.all false
set_option maxHeartbeats 8000000
set_option maxRecDepth 100000
namespace Lp
open Go Go.Proofs Go.RowKit
open List (length_append length_replicate)
open Nat (reduceAdd reduceLeDiff reduceMul reduceSub)
structure Og (n:Nd):Prop where
 len:n.s.length≤100
 gy:gy n.s=true
 lo:-1000≤n.e
 hi:n.e≤1000
 last:n.s≠[]→0<(Lib.trimRightB n.s 48).length
def dV (n:Nd) (above:Bool):PV:=.bP [aA (cO n above).1,.bool (cO n above).2]
theorem Fq (a b:List UInt8) (ha:gy a=true) (hb:gy b=true):gy (a++b)=true:=by
 unfold gy at *
 simp only [List.all_append,ha,hb,Bool.and_self]
theorem Rj (n:Nat):gy (List.replicate n 48)=true:=by
 unfold gy
 rw [List.all_eq_true]
 intro x hx
 rw [(List.mem_replicate.1 hx).2]
 decide
theorem LJ (s:List UInt8) (n:Nat):Lib.trimRightB (s++List.replicate n 48) 48=Lib.trimRightB s 48:=by
 have:∀ (k:Nat) (l:List UInt8),List.dropWhile (·==(48:UInt8)) (List.replicate k 48++l)=List.dropWhile (·==(48:UInt8)) l:=by
  intro k l
  induction k with
  | zero=>rfl
  | succ k ih=>rw [List.replicate_succ,List.cons_append,List.dropWhile_cons];simp [ih]
 unfold Lib.trimRightB
 rw [List.reverse_append,List.reverse_replicate,this]
theorem abw (s:List UInt8):(OZ s).length≤s.length+1:=by
 unfold OZ
 have:=nX s 57
 split
 · simp
 · simp only [length_append,List.length_take,List.length_cons,length_replicate];omega
theorem LK (s:List UInt8):(ou s).length≤s.length+1:=by
 unfold ou
 have:=nX s 48
 simp only [length_append,List.length_take,List.length_cons,length_replicate];omega
theorem abx (above:Bool):eu (!above) [49] (-1000)=.bP [aA ⟨3,0,[],[49],!above,-1000⟩,.int .i64 0]:=by
 cases above <;> rfl
theorem Rk (n:Nd) (above:Bool) (hn:Og n):ai Tryz.prog 75 [aA n,.bool above] [] (dV n above) []:=by
 refine JV.Jb (T:=aP Tryz.prog [(101,vD),(104,m_ 48),(102,VY),(103,CV)]) 0 hD (aj (af Uv (af (AX 48) (af aan (af Uw ah))))) aU (by decide) (by decide) fun Q hQ=>?_
 by_cases hs:n.s=[]
 · have hr:dV n above=.bP [aA ⟨3,0,[],[49],!above,-1000⟩,.bool true]:=by simp [dV,cO,hs]
   have b0:=abx above
   (conv=>arg 4;cbv);simp(maxSteps:=400000)only[↓aW,aX,BEq.rfl,reduceIte,reduceCtorEq,Nat.reduceLT,reduceAdd,reduceSub,reduceMul,Nat.reduceBEq,reduceLeDiff,Int.reduceToNat,Int.reduceLE,hQ,↓vD,b0,hs,hr,bI,bJ,bU]
 have hs':(n.s=[])=False:=eq_false hs
 have l1:=hn.len
 have l2:=hn.lo
 have l3:=hn.hi
 have hE:∀ T:Int,jS n above=max (T-100) (-1000)→(if (-1000:Int) > T-100 then (-1000:Int) else T-100)=jS n above:=fun T h=>by rw [h];split <;> omega
 have l4:(0:Int)<n.s.length:=by
  cases h:n.s with
  | nil=>exact absurd h hs
  | cons x r=>simp
 have hEb:-1000≤jS n above∧jS n above≤1000∧jS n above≤n.e:=by
  unfold jS
  split <;> omega
 generalize Vy:jS n above=E at *
 have FQ:mE n E=n.s++List.replicate (n.e-E).toNat 48:=rfl
 have hpl:(mE n E).length≤3000:=by rw [FQ,length_append,length_replicate];omega
 have hpf:gy (mE n E)=true:=Fq _ _ hn.gy (Rj _)
 have hpt:0<(Lib.trimRightB (mE n E) 48).length:=by rw [FQ,LJ];exact hn.last hs
 have hul:=abw (mE n E)
 have hdl:=LK (mE n E)
 have hpl':n.s.length+(n.e-E).toNat≤3000:=by have:=hpl;rw [FQ,length_append,length_replicate] at this;exact this
 have hpp:(mE n E).length=n.s.length+(n.e-E).toNat:=by rw [FQ,length_append,length_replicate]
 by_cases hg:n.neg=above
 · have hg':(n.neg=above)=True:=eq_true hg
   have hr:dV n above=.bP [aA (dM n.neg (ou (mE n E)) E).1,.bool (decide ((dM n.neg (ou (mE n E)) E).2=0))]:=by
    simp only [dV,cO,if_neg hs,if_pos hg,Vy]
   by_cases h49:n.s=[49]
   · have Oh:(n.s=[49])=True:=eq_true h49
     have hEe:=hE (n.s.length+n.e-1) (by rw [← Vy];unfold jS;rw [if_pos ⟨hg,h49⟩])
     (conv=>arg 4;cbv);simp(maxSteps:=400000)only[↓aW,aX,BEq.rfl,reduceIte,reduceCtorEq,Nat.reduceLT,reduceAdd,reduceSub,reduceMul,Nat.reduceBEq,reduceLeDiff,Int.reduceToNat,Int.reduceLE,hQ,↓vD,↓m_,↓CV,hs',hg',Oh,bI,bJ,bU,hEe,← FQ,hr,eu]
     repeat' (first | omega | exact hpf | exact hpt | exact (by decide) | refine ⟨?_,?_⟩)
   · have Oh:(n.s=[49])=False:=eq_false h49
     have hEe:=hE (n.s.length+n.e) (by rw [← Vy];unfold jS;rw [if_neg fun h=>h49 h.2])
     (conv=>arg 4;cbv);simp(maxSteps:=400000)only[↓aW,aX,BEq.rfl,reduceIte,reduceCtorEq,Nat.reduceLT,reduceAdd,reduceSub,reduceMul,Nat.reduceBEq,reduceLeDiff,Int.reduceToNat,Int.reduceLE,hQ,↓vD,↓m_,↓CV,hs',hg',Oh,bI,bJ,bU,hEe,← FQ,hr,eu]
     repeat' (first | omega | exact hpf | exact hpt | exact (by decide) | refine ⟨?_,?_⟩)
 · have hg':(n.neg=above)=False:=eq_false hg
   have hr:dV n above=.bP [aA (dM n.neg (OZ (mE n E)) E).1,.bool (decide ((dM n.neg (OZ (mE n E)) E).2=0))]:=by
    simp only [dV,cO,if_neg hs,if_neg hg,Vy]
   have hEe:=hE (n.s.length+n.e) (by rw [← Vy];unfold jS;rw [if_neg fun h=>hg h.1])
   (conv=>arg 4;cbv);simp(maxSteps:=400000)only[↓aW,aX,BEq.rfl,reduceIte,reduceCtorEq,Nat.reduceLT,reduceAdd,reduceSub,reduceMul,Nat.reduceBEq,reduceLeDiff,Int.reduceToNat,Int.reduceLE,hQ,↓vD,↓m_,↓VY,hs',hg',bI,bJ,bU,hEe,← FQ,hr,eu]
   repeat' (first | omega | exact hpf | exact hpt | exact (by decide) | refine ⟨?_,?_⟩)
def nY:dJ:=fun args objs K=>match args with
 | [a0,.bool above]=>fU aA a0 (HK.mk:HK fun n=>(Og n)∧K (dV n above) objs 0)
 | _=>False
theorem Oi:aD Tryz.prog 75 (nY):=by
 intro args objs K h
 unfold nY at h
 split at h
 · rename_i a0 above
   obtain ⟨n,rfl,h1,hk⟩:=h
   exact ⟨_,_,_,.pure _ rfl (Rk n above h1),hk⟩
 · exact h.elim
end Lp
namespace Lp
open Go Go.Proofs Go.RowKit
open List (length_cons map_nil)
open Nat (reduceAdd reduceLeDiff reduceMul reduceSub)
open Int (reduceLE reduceToNat)
theorem Ux (s:List UInt8):Lib.trimLeftB (48::s) 48=Lib.trimLeftB s 48:=rfl
theorem Uy {c:UInt8}{s:List UInt8}(h:c≠48):Lib.trimLeftB (c::s) 48=c::s:=by
 unfold Lib.trimLeftB
 have:(c==(48:UInt8))=false:=by simpa using h
 simp [this]
theorem Uz (s:List UInt8):Lib.trimRightB (s++[48]) 48=Lib.trimRightB s 48:=by
 unfold Lib.trimRightB
 rw [List.reverse_append];rfl
theorem UA {c:UInt8}{s:List UInt8}(h:c≠48):Lib.trimRightB (s++[c]) 48=s++[c]:=by
 unfold Lib.trimRightB
 have:(c==(48:UInt8))=false:=by simpa using h
 rw [List.reverse_append]
 simp [this]
theorem UB {c:UInt8}{s:List UInt8}(h:c≠48):Lib.trimRightB (c::s) 48≠[]:=by
 unfold Lib.trimRightB
 have hc:(c==(48:UInt8))=false:=by simpa using h
 rw [List.reverse_cons,List.dropWhile_append]
 split
 · simp [hc]
 · simp
def vS (t:List UInt8) (e:Int):Bool:=decide (100<t.length) || decide (e < -1000) || decide (1000<(t.length:Int)+e)
theorem UC {neg:Bool}{f s t:List UInt8}{e e':Int}(h1:gy f=true) (h2:Lib.trimLeftB f 48=s) (h3:s≠[]) (h4:¬ (e < -100000000∨100000000<e)) (h5:Lib.trimRightB s 48=t) (h6:e'+t.length=e+s.length) :
  dM neg f e=if vS t e' then (aV,2) else (⟨3,0,[],t,neg,e'⟩,0):=by
 have h4a:¬ e < -100000000:=fun h=>h4 (.inl h)
 have h4b:¬ 100000000<e:=fun h=>h4 (.inr h)
 have he:e+((s.length:Int)-(t.length:Int))=e':=by omega
 unfold dM
 rw [if_neg (by simp [h1]),h2,if_neg h3,if_neg h4,h5,he]
 by_cases hb:vS t e'=true
 · rw [if_pos hb,if_pos]
   simp only [vS,Bool.or_eq_true,decide_eq_true_eq] at hb
   rcases hb with (hb | hb) | hb
   · exact .inl hb
   · right;simp [OY];omega
   · right;simp [OY];omega
 · rw [if_neg hb,if_neg]
   simp only [vS,Bool.or_eq_true,decide_eq_true_eq,not_or] at hb
   rintro (h | h)
   · exact hb.1.1 h
   · simp only [OY,Bool.and_eq_false_iff,decide_eq_false_iff_not] at h;omega
theorem Oj (neg:Bool) (f:List UInt8) (e:Int) (hf:f.length≤1000000) (he:-1000000000≤e∧e≤1000000000):ai Tryz.prog 114 [.bool neg,.str f,.int .i64 e] [] (eu neg f e) []:=by
 refine CU.Jb (T:=aP Tryz.prog [(88,o9)]) 0 hD (aj (af Ii ah)) aU (by decide) (by decide) fun Q hQ=>?_
 cases h1:gy f
 · have hr:eu neg f e=.bP [aA ⟨0,0,[],[],false,0⟩,.int .i64 4]:=by simp [eu,dM,h1,aV]
   (conv=>arg 4;cbv);simp(maxSteps:=400000)only[↓aW,aX,BEq.rfl,reduceIte,reduceCtorEq,Nat.reduceLT,reduceAdd,reduceSub,reduceMul,Nat.reduceBEq,reduceLeDiff,reduceToNat,reduceLE,hQ,↓o9,h1,hr,bI,bJ]
   repeat' (first | omega | exact rfl | refine ⟨?_,?_⟩)
 (conv=>arg 4;cbv);simp(maxSteps:=400000)only[↓aW,aX,BEq.rfl,reduceIte,reduceCtorEq,Nat.reduceLT,reduceAdd,reduceSub,reduceMul,Nat.reduceBEq,reduceLeDiff,reduceToNat,reduceLE,hQ,↓o9,h1,bI,bJ]
 refine ⟨by omega,?_⟩
 refine aF (fun m S=>∃ s:List UInt8,s.length=m∧m≤f.length∧Lib.trimLeftB f 48=Lib.trimLeftB s 48∧S=⟨dz 64 [(0,.bool neg),(1,.str s),(2,.int .i64 e),(6,.bR 0 1 0 0)],[⟨42,6,[aA ⟨0,0,[],[],false,0⟩],true,1⟩]⟩) f.length ⟨f,rfl,Nat.le_refl _,rfl,?_⟩ ?_
 · simp only [bG,keepR,reduceAdd,kS,Nat.reduceBEq,map_nil]
 rintro m S ⟨s,hsl,hmf,htl,rfl⟩
 cases s with
 | nil=>
  have z0:((0:Int)<(([]:List UInt8).length:Int))=False:=eq_false (by simp)
  have hr:eu neg f e=.bP [aA ⟨3,0,[],[],false,0⟩,.int .i64 0]:=by
   have:Lib.trimLeftB f 48=[]:=by rw [htl];rfl
   simp [eu,dM,h1,this]
  have he0:(([]:List UInt8)=[])=True:=eq_true rfl
  simp(maxSteps:=400000)only[↓aW,aX,BEq.rfl,reduceIte,reduceCtorEq,Nat.reduceLT,reduceAdd,reduceSub,reduceMul,Nat.reduceBEq,reduceLeDiff,reduceToNat,reduceLE,hQ,z0,he0,hr,bI,bJ,List.length_nil]
  repeat' (first | omega | exact rfl | refine ⟨?_,?_⟩)
 | cons c s=>
  simp only [length_cons] at hsl
  have zl:((0:Int)<((c::s).length:Int))=True:=eq_true (by simp only [length_cons];omega)
  have hg0:(c::s)[0]?=some c:=rfl
  have hdr:(c::s).drop 1=s:=rfl
  have b48:(c.toNat:Int)=48↔c=48:=mF (k:=48) (by omega)
  by_cases hc:(c.toNat:Int)=48
  · have hcc:=b48.1 hc
    subst hcc
    rw [Ux] at htl
    have hwl:((48:UInt8)::s).length=m:=by simp only [length_cons];omega
    generalize hw:(48:UInt8)::s=w at *
    simp(maxSteps:=400000)only[↓aW,aX,BEq.rfl,reduceIte,reduceCtorEq,Nat.reduceLT,reduceAdd,reduceSub,reduceMul,Nat.reduceBEq,reduceLeDiff,reduceToNat,reduceLE,hQ,zl,hg0,hc,List.take_length,hdr]
    repeat' (first | omega | exact ⟨m-1,by omega,s,by omega,by omega,htl,rfl⟩ | exact rfl | refine ⟨?_,?_⟩)
  have hc':=eq_false hc
  have hcn:c≠48:=fun h=>hc (b48.2 h)
  rw [Uy hcn] at htl
  have hne:(c::s=[])=False:=eq_false (by simp)
  have hth:=UB (s:=s) hcn
  have hwl:(c::s).length=m:=by simp only [length_cons];omega
  generalize hw:c::s=w at *
  have hwne:w≠[]:=fun h=>hne.mp h
  rcases tf (e < -100000000) with h3 | h3
  · have hr:eu neg f e=.bP [aA ⟨0,0,[],[],false,0⟩,.int .i64 2]:=by simp [eu,dM,h1,htl,hwne,of_eq_true h3,aV]
    simp(maxSteps:=400000)only[↓aW,aX,BEq.rfl,reduceIte,reduceCtorEq,Nat.reduceLT,reduceAdd,reduceSub,reduceMul,Nat.reduceBEq,reduceLeDiff,reduceToNat,reduceLE,hQ,zl,hg0,hc',hne,h3,hr,bI,bJ]
    repeat' (first | omega | exact rfl | refine ⟨?_,?_⟩)
  rcases tf (100000000<e) with h4 | h4
  · have hr:eu neg f e=.bP [aA ⟨0,0,[],[],false,0⟩,.int .i64 2]:=by simp [eu,dM,h1,htl,hwne,of_eq_true h4,aV]
    simp(maxSteps:=400000)only[↓aW,aX,BEq.rfl,reduceIte,reduceCtorEq,Nat.reduceLT,reduceAdd,reduceSub,reduceMul,Nat.reduceBEq,reduceLeDiff,reduceToNat,reduceLE,hQ,zl,hg0,hc',hne,h3,h4,hr,bI,bJ]
    repeat' (first | omega | exact rfl | refine ⟨?_,?_⟩)
  have h3':=of_eq_false h3
  have h4':=of_eq_false h4
  have hrg:¬ (e < -100000000∨100000000<e):=by omega
  simp(maxSteps:=400000)only[↓aW,aX,BEq.rfl,reduceIte,reduceCtorEq,Nat.reduceLT,reduceAdd,reduceSub,reduceMul,Nat.reduceBEq,reduceLeDiff,reduceToNat,reduceLE,hQ,zl,hg0,hc',hne,h3,h4]
  refine aF (fun m' S=>∃ (u:List UInt8) (e':Int),u.length=m'∧m'≤m∧Lib.trimRightB w 48=Lib.trimRightB u 48∧e'+u.length=e+w.length∧S=⟨dz 64 [(0,.bool neg),(1,.str u),(2,.int .i64 e'),(6,.bR 0 1 0 0)],[⟨42,6,[aA ⟨0,0,[],[],false,0⟩],true,1⟩]⟩) m ⟨w,e,hwl,Nat.le_refl _,rfl,rfl,?_⟩ ?_
  · simp only [bG,keepR,reduceAdd,kS,Nat.reduceBEq,map_nil]
  rintro m' S ⟨u,e',hul,hum,htr,hee,rfl⟩
  have hun:u≠[]:=fun h=>by rw [htr,h] at hth;exact hth rfl
  have hup:0<u.length:=List.length_pos_iff.2 hun
  have hlt:u.length-1<u.length:=by omega
  have hgl:=List.getElem?_eq_getElem hlt
  have hsplit:u=u.take (u.length-1)++[u[u.length-1]]:=by
   conv=>lhs;rw [← List.take_append_drop (u.length-1) u]
   rw [List.drop_eq_getElem_cons hlt,List.drop_eq_nil_of_le (by omega)]
  generalize u[u.length-1]=d at hgl hsplit
  have tl:((u.length:Int)-1).toNat=u.length-1:=by omega
  have zl1:(0≤(u.length:Int)-1)=True:=eq_true (by omega)
  have ll1:((u.length:Int)-1<(u.length:Int))=True:=eq_true (by omega)
  have i1:(-9223372036854775808≤(u.length:Int)-1∧(u.length:Int)-1≤9223372036854775807)=True:=eq_true ⟨by omega,by omega⟩
  have d48:(d.toNat:Int)=48↔d=48:=mF (k:=48) (by omega)
  by_cases hd:(d.toNat:Int)=48
  · have hdd:=d48.1 hd
    have afo:Lib.trimRightB w 48=Lib.trimRightB (u.take (u.length-1)) 48:=by
     have hs2:u=u.take (u.length-1)++[48]:=by rw [← hdd];exact hsplit
     rw [htr]
     conv=>lhs;rw [hs2]
     exact Uz _
    have afE:(u.take (u.length-1)).length=u.length-1:=by rw [List.length_take];omega
    simp(maxSteps:=400000)only[↓aW,aX,BEq.rfl,reduceIte,reduceCtorEq,Nat.reduceLT,reduceAdd,reduceSub,reduceMul,Nat.reduceBEq,reduceLeDiff,reduceToNat,reduceLE,hQ,tl,zl1,ll1,i1,hgl,hd]
    repeat' (first | omega | exact ⟨m'-1,by omega,u.take (u.length-1),e'+1,by omega,by omega,afo,by omega,rfl⟩ | exact rfl | refine ⟨?_,?_⟩)
  have hd':=eq_false hd
  have htu:Lib.trimRightB w 48=u:=by rw [htr,hsplit];exact UA fun h=>hd (d48.2 h)
  have hmk:=UC (neg:=neg) h1 htl hwne hrg htu hee
  rcases tf (100<(u.length:Int)) with g1 | g1
  · have hr:eu neg f e=.bP [aA ⟨0,0,[],[],false,0⟩,.int .i64 2]:=by
     have:vS u e'=true:=by have:=of_eq_true g1;simp [vS];omega
     rw [eu,hmk,this];rfl
    simp(maxSteps:=400000)only[↓aW,aX,BEq.rfl,reduceIte,reduceCtorEq,Nat.reduceLT,reduceAdd,reduceSub,reduceMul,Nat.reduceBEq,reduceLeDiff,reduceToNat,reduceLE,hQ,tl,zl1,ll1,i1,hgl,hd',g1,hr,bI,bJ]
    repeat' (first | omega | exact rfl | refine ⟨?_,?_⟩)
  rcases tf (e' < -1000) with g2 | g2
  · have hr:eu neg f e=.bP [aA ⟨0,0,[],[],false,0⟩,.int .i64 2]:=by
     have:vS u e'=true:=by have:=of_eq_true g2;simp [vS];omega
     rw [eu,hmk,this];rfl
    simp(maxSteps:=400000)only[↓aW,aX,BEq.rfl,reduceIte,reduceCtorEq,Nat.reduceLT,reduceAdd,reduceSub,reduceMul,Nat.reduceBEq,reduceLeDiff,reduceToNat,reduceLE,hQ,tl,zl1,ll1,i1,hgl,hd',g1,g2,hr,bI,bJ]
    repeat' (first | omega | exact rfl | refine ⟨?_,?_⟩)
  rcases tf (1000<(u.length:Int)+e') with g3 | g3
  · have hr:eu neg f e=.bP [aA ⟨0,0,[],[],false,0⟩,.int .i64 2]:=by
     have:vS u e'=true:=by have:=of_eq_true g3;simp [vS];omega
     rw [eu,hmk,this];rfl
    simp(maxSteps:=400000)only[↓aW,aX,BEq.rfl,reduceIte,reduceCtorEq,Nat.reduceLT,reduceAdd,reduceSub,reduceMul,Nat.reduceBEq,reduceLeDiff,reduceToNat,reduceLE,hQ,tl,zl1,ll1,i1,hgl,hd',g1,g2,g3,hr,bI,bJ]
    repeat' (first | omega | exact rfl | refine ⟨?_,?_⟩)
  · have hr:eu neg f e=.bP [aA ⟨3,0,[],u,neg,e'⟩,.int .i64 0]:=by
     have:vS u e'=false:=by
      have g1':=of_eq_false g1
      have g2':=of_eq_false g2
      have g3':=of_eq_false g3
      simp only [vS,Bool.or_eq_false_iff,decide_eq_false_iff_not];omega
     rw [eu,hmk,this];rfl
    simp(maxSteps:=400000)only[↓aW,aX,BEq.rfl,reduceIte,reduceCtorEq,Nat.reduceLT,reduceAdd,reduceSub,reduceMul,Nat.reduceBEq,reduceLeDiff,reduceToNat,reduceLE,hQ,tl,zl1,ll1,i1,hgl,hd',g1,g2,g3,hr,bI,bJ]
    repeat' (first | omega | exact rfl | refine ⟨?_,?_⟩)
def ng:dJ:=fun args objs K=>match args with
 | [.bool neg,.str f,.int .i64 e]=>(f.length≤1000000)∧(-1000000000≤e∧e≤1000000000)∧K (eu neg f e) objs 0
 | _=>False
theorem Rl:aD Tryz.prog 114 (ng):=by
 intro args objs K h
 unfold ng at h
 split at h
 · rename_i neg f e
   obtain ⟨h1,h2,hk⟩:=h
   exact ⟨_,_,_,.pure _ rfl (Oj neg f e h1 h2),hk⟩
 · exact h.elim
theorem Rm (n:Nd) (e:Int) (h1:-2000≤e∧e≤n.e∧n.e≤2000) (h2:n.s.length≤100000):ai Tryz.prog 111 [aA n,.int .i64 e] [] (.str (mE n e)) []:=by
 refine yX.a_ (T:=aP Tryz.prog []) 0 hD (aj ah) aU (by decide) fun Q hQ=>?_
 (conv=>arg 4;cbv);simp(maxSteps:=400000)only[↓aW,aX,BEq.rfl,reduceIte,reduceCtorEq,Nat.reduceLT,reduceAdd,reduceSub,reduceMul,Nat.reduceBEq,reduceLeDiff,reduceToNat,reduceLE,hQ]
 refine aF (fun m S=>∃ k:Nat,(k:Int)+m=n.e-e∧S=⟨dz 19 [(2,.bR 0 1 0 0),(5,.str (n.s++List.replicate k 48)),(6,.int .i64 (e+k))],[⟨42,6,[aA n],true,1⟩]⟩) (n.e-e).toNat ⟨0,by omega,?_⟩ ?_
 · simp only [bG,keepR,reduceAdd,kS,Nat.reduceBEq,map_nil]
   simp
 rintro m S ⟨k,hkm,rfl⟩
 have hl:(n.s++List.replicate k 48).length=n.s.length+k:=by rw [List.length_append,List.length_replicate]
 rcases Nat.eq_zero_or_pos m with h0 | h0
 · have hlt:(e+(k:Int)<n.e)=False:=eq_false (by omega)
   have hr:mE n e=n.s++List.replicate k 48:=by unfold mE;congr 2;omega
   simp(maxSteps:=400000)only[↓aW,aX,BEq.rfl,reduceIte,reduceCtorEq,Nat.reduceLT,reduceAdd,reduceSub,reduceMul,Nat.reduceBEq,reduceLeDiff,reduceToNat,reduceLE,hQ,hlt,hr]
 · have hlt:(e+(k:Int)<n.e)=True:=eq_true (by omega)
   have hs:n.s++List.replicate k 48++[48]=n.s++List.replicate (k+1) 48:=by rw [List.append_assoc,List.replicate_succ']
   simp(maxSteps:=400000)only[↓aW,aX,BEq.rfl,reduceIte,reduceCtorEq,Nat.reduceLT,reduceAdd,reduceSub,reduceMul,Nat.reduceBEq,reduceLeDiff,reduceToNat,reduceLE,hQ,hlt]
   repeat' (first | omega | exact ⟨m-1,by omega,k+1,by omega,by rw [hs,Int.natCast_add,Int.natCast_one,Int.add_assoc]⟩ | exact rfl | refine ⟨?_,?_⟩)
def kP:dJ:=fun args objs K=>match args with
 | [a0,.int .i64 e]=>fU aA a0 (HK.mk:HK fun n=>(-2000≤e∧e≤n.e∧n.e≤2000)∧(n.s.length≤100000)∧K (.str (mE n e)) objs 0)
 | _=>False
theorem Ol:aD Tryz.prog 111 (kP):=by
 intro args objs K h
 unfold kP at h
 split at h
 · rename_i a0 e
   obtain ⟨n,rfl,h1,h2,hk⟩:=h
   exact ⟨_,_,_,.pure _ rfl (Rm n e h1 h2),hk⟩
 · exact h.elim
end Lp
namespace Lp
open Go Go.Proofs Go.Sort Go.RowKit
open List (length_cons length_take)
def iOf:Value→Int
 | .int _ q=>q
 | _=>0
def lm (b:UInt8):Value:=.int .u8 (b.toNat:Int)
set_option maxRecDepth 1000000 in
set_option maxHeartbeats 4000000 in
theorem X9 (s:List UInt8) (hlen:s.length≤1000000) (w:World) (cap:Nat) (W1:World) (g n:Nat) (d0:Array UInt8) (hn:d0.size=n+1) (h0:∃ j,j≤n∧d0[j]!≠57) (hn1:n≤1000000)
 (LM:(convert 9 142 (.string (⟨#[48]⟩++⟨⟨s⟩⟩))).run Tryz.prog w=.ok (.slice (some ⟨g,0,none⟩) (n+1) cap) W1)
 (hH:Holds lm W1 g 0 d0)
 (hback:∀ dk:Array UInt8,dk.size=n+1→(convert 142 9 (.slice (some ⟨g,0,none⟩) (n+1) cap)).run Tryz.prog (putRow lm W1 g 0 dk)=.ok (.string ⟨dk⟩) (putRow lm W1 g 0 dk)) :
 Calls Tryz.prog 112 #[.string ⟨⟨s⟩⟩] w fun e w'=>∃ (k:Nat) (dk:Array UInt8),k≤n∧dk.size=n+1∧(∀ j,j≤k→dk[j]! =d0[j]!)∧(∀ j,k<j→j≤n→dk[j]! =48∧d0[j]! =57)∧d0[k]!≠57∧e=.returned (.string ⟨dk.setIfInBounds k (dk[k]!+1)⟩)∧w'=putRow lm W1 g 0 (dk.setIfInBounds k (dk[k]!+1)):=by
 go_enter Tryz.func112,Tryz.ntmps112
 go_wp2
 rw [← putRow_self lm W1 g 0 d0 hH]
 go_loopw [4] (fun i wr=>∃ (k:Nat) (dk:Array UInt8),k≤n∧i=.int .i64 k∧dk.size=n+1∧(∀ j,j≤k→dk[j]! =d0[j]!)∧(∀ j,k<j→j≤n→dk[j]! =48∧d0[j]! =57)∧wr=putRow lm W1 g 0 dk) (fun i _=>(iOf i).toNat)
 case atStart=>exact ⟨n,d0,Nat.le_refl _,by simp,hn,fun _ _=>rfl,fun j h1 h2=>by omega,rfl⟩
 case round=>
  obtain ⟨k,dk,hk,rfl,hdk,hr1,hr2,rfl⟩:=hrel
  have hc:=cell?_putRow lm W1 g 0 d0 dk hH (by omega) k (by omega)
  have hf:(putRow lm W1 g 0 dk).frozen? ⟨g,0+k,none⟩=false:=by rw [frozen?_putRow];exact (hH k (by omega)).2
  rw [Nat.zero_add] at hc hf
  have hs1:=putRow_set lm W1 g 0 dk k 48 (by omega)
  have hs2:=putRow_set lm W1 g 0 dk k (dk[k]!+1) (by omega)
  rw [Nat.zero_add] at hs1 hs2
  have hb2:=hback (dk.setIfInBounds k (dk[k]!+1)) (by simpa using hdk)
  obtain ⟨x,hx⟩:∃ x,dk[k]! =x:=⟨_,rfl⟩
  rw [hx] at hc hb2 hs2
  have eS:(x.toNat:Int)=57↔x=57:=⟨fun h=>UInt8.toNat_inj.1 (by have:(57:UInt8).toNat=57:=rfl;omega),fun h=>by rw [h];rfl⟩
  have hx1:((x+1).toNat:Int)=((x.toNat:Int)+1) % 256:=by
   have h1:(1:UInt8).toNat=1:=rfl
   have h2:=x.toNat_lt
   rw [UInt8.toNat_add];omega
  unfold lm at hc hs1 hs2 hb2
  rw [hx1] at hs2
  have hP:(((48:UInt8).toNat:Nat):Int)=48:=rfl
  rw [hP] at hs1
  generalize hwq:putRow (fun b:UInt8=>Value.int .u8 (b.toNat:Int)) W1 g 0 dk=wq at *
  have adp:putRow lm W1 g 0 dk=wq:=hwq
  rw [adp] at hf ⊢
  generalize hX:(x.toNat:Int)=X at *
  by_cases hS:X=57
  · subst hS
    have hxS:=eS.1 rfl
    have hk1:1≤k:=by
     rcases Nat.eq_zero_or_pos k with h | h
     · subst h
       obtain ⟨j,hj1,hj2⟩:=h0
       rcases Nat.eq_zero_or_pos j with h' | h'
       · subst h'
         exact absurd ((hr1 0 (Nat.le_refl _)).symm.trans (hx.trans hxS)) hj2
       · exact absurd (hr2 j h' hj1).2 hj2
     · exact h
    go_wp2
    refine ⟨⟨k-1,dk.setIfInBounds k 48,by omega,by congr 1;omega,by simpa using hdk,fun j hj=>?_,fun j h1 h2=>?_,rfl⟩,by simp [iOf];omega⟩
    · rw [getElem!_set_other dk k j 48 (by omega)];exact hr1 j (by omega)
    · by_cases hjk:j=k
      · subst hjk
        rw [getElem!_set_same dk j 48 (by omega),← hr1 j (Nat.le_refl _),hx]
        exact ⟨rfl,hxS⟩
      · rw [getElem!_set_other dk k j 48 hjk];exact hr2 j (by omega) h2
  · have hSb:(X==57)=false:=by simpa using hS
    go_wp2
    go_ret
    refine ⟨k,dk,hk,hdk,hr1,hr2,?_,by rw [hx];rfl,?_⟩
    · rw [← hr1 k (Nat.le_refl _),hx];intro h;exact hS (eS.2 h)
    · rw [hx];rfl
set_option maxRecDepth 1000000 in
set_option maxHeartbeats 4000000 in
theorem X_ (s:List UInt8) (hlen:s.length≤1000000) (w:World) (cap:Nat) (W1:World) (g n:Nat) (d0:Array UInt8) (hn:d0.size=n+1) (h0:∃ j,j≤n∧d0[j]!≠48) (hn1:n≤1000000)
 (LM:(convert 9 142 (.string ⟨⟨s⟩⟩)).run Tryz.prog w=.ok (.slice (some ⟨g,0,none⟩) (n+1) cap) W1)
 (hH:Holds lm W1 g 0 d0)
 (hback:∀ dk:Array UInt8,dk.size=n+1→(convert 142 9 (.slice (some ⟨g,0,none⟩) (n+1) cap)).run Tryz.prog (putRow lm W1 g 0 dk)=.ok (.string ⟨dk⟩) (putRow lm W1 g 0 dk)) :
 Calls Tryz.prog 113 #[.string ⟨⟨s⟩⟩] w fun e w'=>∃ (k:Nat) (dk:Array UInt8),k≤n∧dk.size=n+1∧(∀ j,j≤k→dk[j]! =d0[j]!)∧(∀ j,k<j→j≤n→dk[j]! =57∧d0[j]! =48)∧d0[k]!≠48∧e=.returned (.string ⟨dk.setIfInBounds k (dk[k]!-1)⟩)∧w'=putRow lm W1 g 0 (dk.setIfInBounds k (dk[k]!-1)):=by
 go_enter Tryz.func113,Tryz.ntmps113
 go_wp2
 rw [← putRow_self lm W1 g 0 d0 hH]
 go_loopw [4] (fun i wr=>∃ (k:Nat) (dk:Array UInt8),k≤n∧i=.int .i64 k∧dk.size=n+1∧(∀ j,j≤k→dk[j]! =d0[j]!)∧(∀ j,k<j→j≤n→dk[j]! =57∧d0[j]! =48)∧wr=putRow lm W1 g 0 dk) (fun i _=>(iOf i).toNat)
 case atStart=>exact ⟨n,d0,Nat.le_refl _,by simp,hn,fun _ _=>rfl,fun j h1 h2=>by omega,rfl⟩
 case round=>
  obtain ⟨k,dk,hk,rfl,hdk,hr1,hr2,rfl⟩:=hrel
  have hc:=cell?_putRow lm W1 g 0 d0 dk hH (by omega) k (by omega)
  have hf:(putRow lm W1 g 0 dk).frozen? ⟨g,0+k,none⟩=false:=by rw [frozen?_putRow];exact (hH k (by omega)).2
  rw [Nat.zero_add] at hc hf
  have hs1:=putRow_set lm W1 g 0 dk k 57 (by omega)
  have hs2:=putRow_set lm W1 g 0 dk k (dk[k]!-1) (by omega)
  rw [Nat.zero_add] at hs1 hs2
  have hb2:=hback (dk.setIfInBounds k (dk[k]!-1)) (by simpa using hdk)
  obtain ⟨x,hx⟩:∃ x,dk[k]! =x:=⟨_,rfl⟩
  rw [hx] at hc hb2 hs2
  have eS:(x.toNat:Int)=48↔x=48:=⟨fun h=>UInt8.toNat_inj.1 (by have:(48:UInt8).toNat=48:=rfl;omega),fun h=>by rw [h];rfl⟩
  have hx1:((x-1).toNat:Int)=((x.toNat:Int)-1) % 256:=by
   have h1:(1:UInt8).toNat=1:=rfl
   have h2:=x.toNat_lt
   rw [UInt8.toNat_sub];omega
  unfold lm at hc hs1 hs2 hb2
  rw [hx1] at hs2
  have hP:(((57:UInt8).toNat:Nat):Int)=57:=rfl
  rw [hP] at hs1
  generalize hwq:putRow (fun b:UInt8=>Value.int .u8 (b.toNat:Int)) W1 g 0 dk=wq at *
  have adp:putRow lm W1 g 0 dk=wq:=hwq
  rw [adp] at hf ⊢
  generalize hX:(x.toNat:Int)=X at *
  by_cases hS:X=48
  · subst hS
    have hxS:=eS.1 rfl
    have hk1:1≤k:=by
     rcases Nat.eq_zero_or_pos k with h | h
     · subst h
       obtain ⟨j,hj1,hj2⟩:=h0
       rcases Nat.eq_zero_or_pos j with h' | h'
       · subst h'
         exact absurd ((hr1 0 (Nat.le_refl _)).symm.trans (hx.trans hxS)) hj2
       · exact absurd (hr2 j h' hj1).2 hj2
     · exact h
    go_wp2
    refine ⟨⟨k-1,dk.setIfInBounds k 57,by omega,by congr 1;omega,by simpa using hdk,fun j hj=>?_,fun j h1 h2=>?_,rfl⟩,by simp [iOf];omega⟩
    · rw [getElem!_set_other dk k j 57 (by omega)];exact hr1 j (by omega)
    · by_cases hjk:j=k
      · subst hjk
        rw [getElem!_set_same dk j 57 (by omega),← hr1 j (Nat.le_refl _),hx]
        exact ⟨rfl,hxS⟩
      · rw [getElem!_set_other dk k j 57 hjk];exact hr2 j (by omega) h2
  · have hSb:(X==48)=false:=by simpa using hS
    go_wp2
    go_ret
    refine ⟨k,dk,hk,hdk,hr1,hr2,?_,by rw [hx];rfl,?_⟩
    · rw [← hr1 k (Nat.le_refl _),hx];intro h;exact hS (eS.2 h)
    · rw [hx];rfl
theorem below_putRow {B:Nat}{a w:World}(h:Below B a w){g:Nat}(hg:B≤g) (d:Array UInt8):Below B a (putRow lm w g 0 d):=
 h.trans ⟨rfl,rfl,rfl,by simp,fun k hk=>by simp only [putRow,mapBlock,Array.getElem?_modify];rw [if_neg (by omega)]⟩
theorem Rn (w:World) (l:List UInt8):∃ (cap:Nat) (W1:World),(convert 9 142 (.string ⟨⟨l⟩⟩)).run Tryz.prog w=.ok (.slice (some ⟨w.heap.size,0,none⟩) l.length cap) W1∧Holds lm W1 w.heap.size 0 ⟨l⟩∧Below w.heap.size w W1∧
  ∀ dk:Array UInt8,dk.size=l.length→(convert 142 9 (.slice (some ⟨w.heap.size,0,none⟩) l.length cap)).run Tryz.prog (putRow lm W1 w.heap.size 0 dk)=.ok (.string ⟨dk⟩) (putRow lm W1 w.heap.size 0 dk):=by
 have us:Tryz.prog.underlying 9=some .string:=by kernel_rfl
 have ub:Tryz.prog.underlying 142=some (.slice 5):=by kernel_rfl
 have u8:Tryz.prog.underlying 5=some (.int .u8):=by kernel_rfl
 have LM:=run_bytes_of_string (P:=Tryz.prog) w 9 142 5 ⟨⟨l⟩⟩ us ub u8
 have hsz:(ByteArray.mk ⟨l⟩).size=l.length:=by simp [ByteArray.size]
 rw [hsz] at LM
 generalize hcap:grownCap w l.length 0 5=cap at LM
 generalize hC:bytesRow ⟨⟨l⟩⟩ cap=C at LM
 have hCl:l.length≤C.size:=by rw [← hC];simp [bytesRow]
 have hH:Holds lm (w.drew.alloc (.cells C 5 (C.size,C.size+1))) w.heap.size 0 ⟨l⟩:=by
  intro j hj
  have hj':j<l.length:=hj
  have h1:=World.cell?_alloc_mark w.drew C 5 (C.size,C.size+1) (0+j)
  have h2:=World.frozen?_alloc_mark w.drew C 5 C.size (C.size+1) (0+j)
  have hh:w.drew.heap.size=w.heap.size:=rfl
  rw [hh] at h1 h2
  refine ⟨h1.trans ?_,h2.trans ?_⟩
  · rw [Nat.zero_add,← hC,bytesRow_at ⟨⟨l⟩⟩ cap j hj]
    simp [lm,hj']
  · have:decide (C.size≤0+j)=false:=decide_eq_false (by omega)
    rw [this];rfl
 refine ⟨cap,_,LM,hH,(Below.refl _ _).drew.alloc (Nat.le_refl _) _,fun dk hdk=>?_⟩
 have aeB:=holds_putRow lm _ w.heap.size 0 ⟨l⟩ dk hH hdk
 have:=run_convert_bytes_back (P:=Tryz.prog) (putRow lm (w.drew.alloc (.cells C 5 (C.size,C.size+1))) w.heap.size 0 dk) 142 9 5 ⟨w.heap.size,0,none⟩ cap dk.toList ub u8 us (fun j hj=>by
  have hj':j<dk.size:=by simpa using hj
  have:=(aeB j hj').1
  rw [add_lit,this,lm]
  simp [hj'])
 have hl:dk.toList.length=l.length:=by simpa using hdk
 rw [hl] at this
 simpa using this
theorem Ro {b:List UInt8}{c:UInt8}{k:Nat}(hk:k<b.length) (h1:b[k]?≠some c) (h2:∀ j,k<j→j<b.length→b[j]?=some c):(Lib.trimRightB b c).length=k+1:=by
 have hb:b=b.take k++[b[k]]++List.replicate (b.length-(k+1)) c:=by
  apply List.ext_getElem?
  intro j
  rcases Nat.lt_trichotomy j k with h | h | h
  · rw [List.append_assoc,List.getElem?_append_left (by rw [length_take];omega),List.getElem?_take,if_pos h]
  · subst h
    rw [List.getElem?_append_left (by simp;omega),List.getElem?_append_right (by rw [length_take];omega),List.getElem?_eq_getElem hk]
    simp [Nat.min_eq_left (Nat.le_of_lt hk)] <;> omega
  · have hl:(b.take k++[b[k]]).length=k+1:=by simp;omega
    rw [List.getElem?_append_right (by omega),hl,List.getElem?_replicate]
    rcases Nat.lt_or_ge j b.length with g | g
    · rw [if_pos (by omega),h2 j h g]
    · rw [if_neg (by omega),List.getElem?_eq_none g]
 have hne:b[k]≠c:=fun e=>h1 (by rw [List.getElem?_eq_getElem hk,e])
 have FQ:∀ (n:Nat) (l:List UInt8),List.dropWhile (·==c) (List.replicate n c++l)=List.dropWhile (·==c) l:=by
  intro n l
  induction n with
  | zero=>rfl
  | succ n ih=>rw [List.replicate_succ,List.cons_append,List.dropWhile_cons];simp [ih]
 unfold Lib.trimRightB
 rw [hb,List.reverse_append,List.reverse_replicate,FQ,List.reverse_append]
 have:(b[k]==c)=false:=by simpa using hne
 simp only [List.reverse_cons,List.reverse_nil,List.nil_append,List.cons_append,List.dropWhile_cons,this,Bool.false_eq_true,if_false,List.length_append,List.length_reverse,length_cons,List.length_nil,length_take]
 omega
def aao (b:List UInt8):List UInt8:=b.take ((Lib.trimRightB b 57).length-1)++(b.getD ((Lib.trimRightB b 57).length-1) 0+1)::List.replicate (b.length-(Lib.trimRightB b 57).length) 48
def rP (s:List UInt8):List UInt8:=aao (48::s)
theorem Rp {b:List UInt8}{dk:Array UInt8}{k:Nat}{x p:UInt8}(hdk:dk.size=b.length) (hk:k<b.length) (h1:∀ j,j≤k→dk[j]! =(⟨b⟩:Array UInt8)[j]!) (h2:∀ j,k<j→j<b.length→dk[j]! =p) :
  dk.setIfInBounds k x=(b.take k++x::List.replicate (b.length-(k+1)) p).toArray:=by
 apply Array.ext_getElem?
 intro j
 rw [Array.getElem?_setIfInBounds,hdk]
 have hg:∀ (i:Nat) (_:i<dk.size),dk[i]?=some dk[i]!:=fun i hi=>by rw [getElem!_pos dk i hi];exact Array.getElem?_eq_getElem hi
 have hR:(b.take k++x::List.replicate (b.length-(k+1)) p).toArray[j]?=(b.take k++x::List.replicate (b.length-(k+1)) p)[j]?:=List.getElem?_toArray
 rw [hR]
 rcases Nat.lt_trichotomy j k with h | h | h
 · rw [if_neg (by omega),hg j (by omega),h1 j (by omega),List.getElem?_append_left (by rw [length_take];omega),List.getElem?_take,if_pos h,getElem!_pos (⟨b⟩:Array UInt8) j (by simp;omega),List.getElem?_eq_getElem (by omega)]
   rfl
 · subst h
   rw [if_pos rfl,if_pos hk,List.getElem?_append_right (by rw [length_take];omega)]
   simp [Nat.min_eq_left (Nat.le_of_lt hk)]
 · rw [if_neg (by omega)]
   have hl:(b.take k).length=k:=by rw [length_take];omega
   rw [List.getElem?_append_right (by omega),hl,show j-k=(j-k-1)+1 by omega,List.getElem?_cons_succ,List.getElem?_replicate]
   rcases Nat.lt_or_ge j b.length with g | g
   · rw [if_pos (by omega),hg j (by omega),h2 j h g]
   · rw [if_neg (by omega),Array.getElem?_eq_none (by omega)]
theorem vE {b:List UInt8}{j:Nat}(h:j<b.length):b[j]?=some ((⟨b⟩:Array UInt8)[j]!):=by
 rw [getElem!_pos (⟨b⟩:Array UInt8) j (by simpa using h),List.getElem?_eq_getElem h];rfl
theorem Ya (s:List UInt8) (hs:s.length≤1000000):ai Tryz.prog 112 [.str s] [] (.str (rP s)) []:=by
 refine ai.o_ ⟨_,Tryz.func112,by kernel_rfl,by kernel_rfl⟩ fun w vs ok hg hr=>?_
 obtain ⟨u,rfl,h⟩:=abk hr
 cases kE h
 obtain ⟨cap,W1,h1,h2,h3,h4⟩:=Rn w (48::s)
 have hB:(⟨#[48]⟩++⟨⟨s⟩⟩:ByteArray)=⟨⟨48::s⟩⟩:=by
  apply ByteArray.ext
  rw [ByteArray.data_append]
  apply Array.ext'
  simp
 refine (X9 s hs w cap W1 w.heap.size s.length ⟨48::s⟩ (by simp) ⟨0,Nat.zero_le _,by rw [show (⟨48::s⟩:Array UInt8)[0]! =48 from rfl];decide⟩ hs (by rw [hB];exact h1) h2 h4).mono ?_
 rintro e w' ⟨k,dk,k1,k2,k3,k4,k5,rfl,rfl⟩
 have kl:k<(48::s).length:=by simp only [length_cons];omega
 have ht:=Ro (b:=48::s) (c:=57) kl (by rw [vE kl];exact fun e=>k5 (Option.some.inj e)) (fun j h1 h2=>by
  rw [vE h2,(k4 j h1 (by simp only [length_cons] at h2;omega)).2])
 have hrow:=Rp (b:=48::s) (x:=dk[k]!+1) (p:=48) (by rw [k2];rfl) kl k3 (fun j h1 h2=>(k4 j h1 (by simp only [length_cons] at h2;omega)).1)
 have hres:(48::s).take k++(dk[k]!+1)::List.replicate ((48::s).length-(k+1)) 48=rP s:=by
  rw [rP,aao,ht,Nat.add_sub_cancel,List.getD_eq_getElem?_getD,vE kl,k3 k (Nat.le_refl _)];rfl
 rw [hres] at hrow
 exact ⟨_,rfl,fun w ok=>by rw [hrow];exact .str _,below_putRow h3 (Nat.le_refl _) _⟩
theorem Yb (s:List UInt8) (h0:0<(Lib.trimRightB s 48).length) (hs:s.length≤1000000):ai Tryz.prog 113 [.str s] [] (.str (ou s)) []:=by
 refine ai.o_ ⟨_,Tryz.func113,by kernel_rfl,by kernel_rfl⟩ fun w vs ok hg hr=>?_
 obtain ⟨u,rfl,h⟩:=abk hr
 cases kE h
 obtain ⟨cap,W1,h1,h2,h3,h4⟩:=Rn w s
 obtain ⟨d,hd,hne⟩:=AY h0
 have hdl:=(List.getElem?_eq_some_iff.1 hd).1
 obtain ⟨n,hn⟩:∃ n,s.length=n+1:=⟨s.length-1,by omega⟩
 rw [hn] at h1 h4
 refine (X_ s hs w cap W1 w.heap.size n ⟨s⟩ hn ⟨(Lib.trimRightB s 48).length-1,by omega,by
  rw [vE hdl] at hd;rw [Option.some.inj hd];exact hne⟩ (by omega) h1 h2 h4).mono ?_
 rintro e w' ⟨k,dk,k1,k2,k3,k4,k5,rfl,rfl⟩
 have kl:k<s.length:=by omega
 have ht:=Ro (b:=s) (c:=48) kl (by rw [vE kl];exact fun e=>k5 (Option.some.inj e)) (fun j h1 h2=>by
  rw [vE h2,(k4 j h1 (by omega)).2])
 have hrow:=Rp (b:=s) (x:=dk[k]!-1) (p:=57) (by rw [k2,hn]) kl k3 (fun j h1 h2=>(k4 j h1 (by omega)).1)
 have hres:s.take k++(dk[k]!-1)::List.replicate (s.length-(k+1)) 57=ou s:=by
  rw [ou,ht,Nat.add_sub_cancel,List.getD_eq_getElem?_getD,vE kl,k3 k (Nat.le_refl _)];rfl
 rw [hres] at hrow
 exact ⟨_,rfl,fun w ok=>by rw [hrow];exact .str _,below_putRow h3 (Nat.le_refl _) _⟩
def CW:dJ:=fun args objs K=>match args with
 | [.str s]=>(s.length≤1000000)∧K (.str (rP s)) objs 0
 | _=>False
theorem UD:aD Tryz.prog 112 (CW):=by
 intro args objs K h
 unfold CW at h
 split at h
 · rename_i s
   obtain ⟨h1,hk⟩:=h
   exact ⟨_,_,_,.pure _ rfl (Ya s h1),hk⟩
 · exact h.elim
def vF:dJ:=fun args objs K=>match args with
 | [.str s]=>(0<(Lib.trimRightB s 48).length)∧(s.length≤1000000)∧K (.str (ou s)) objs 0
 | _=>False
theorem UE:aD Tryz.prog 113 (vF):=by
 intro args objs K h
 unfold vF at h
 split at h
 · rename_i s
   obtain ⟨h1,h2,hk⟩:=h
   exact ⟨_,_,_,.pure _ rfl (Yb s h1 h2),hk⟩
 · exact h.elim
theorem Yc (s:List UInt8):(rP s).length≤s.length+2:=by
 unfold rP aao
 have:=nX (48::s) 57
 simp only [List.length_append,length_take,length_cons,List.length_replicate] at *;omega
theorem UF (neg:Bool) (x:List UInt8) (e:Int):dM neg (48::x) e=dM neg x e:=by
 have h1:gy (48::x)=gy x:=by simp [gy]
 have h2:Lib.trimLeftB (48::x) 48=Lib.trimLeftB x 48:=rfl
 unfold dM
 rw [h1,h2]
theorem UG (neg:Bool) (s:List UInt8) (e:Int):dM neg (rP s) e=dM neg (OZ s) e:=by
 have hrev:Lib.trimRightB (48::s) 57=if Lib.trimRightB s 57=[] then [48] else 48::Lib.trimRightB s 57:=by
  unfold Lib.trimRightB
  rw [List.reverse_cons]
  cases h:s.reverse.dropWhile (·==(57:UInt8)) with
  | nil=>
   have:(s.reverse++[48]).dropWhile (·==(57:UInt8))=[48]:=by
    rw [List.dropWhile_append,h];rfl
   rw [this];rfl
  | cons a t=>
   have:(s.reverse++[48]).dropWhile (·==(57:UInt8))=(a::t)++[48]:=by
    rw [List.dropWhile_append,h];rfl
   rw [this]
   simp
 by_cases h:Lib.trimRightB s 57=[]
 · rw [if_pos h] at hrev
   have:rP s=OZ s:=by
    rw [rP,aao,hrev,OZ,h];rfl
   rw [this]
 · rw [if_neg h] at hrev
   have hl:0<(Lib.trimRightB s 57).length:=List.length_pos_iff.2 h
   have:rP s=48::OZ s:=by
    rw [rP,aao,hrev,OZ,if_neg (by omega)]
    obtain ⟨n,hn⟩:∃ n,(Lib.trimRightB s 57).length=n+1:=⟨_,(Nat.succ_pred_eq_of_pos hl).symm⟩
    simp [hn]
   rw [this,UF]
end Lp
namespace Lp
open Go Go.Proofs Go.RowKit
open List (append_assoc append_nil cons_append length_append length_cons length_map length_nil map_nil nil_append take_length)
open Nat (le_succ lt_irrefl lt_or_ge reduceAdd reduceLeDiff reduceMul reduceSub)
open Int (reduceLE reduceToNat)
theorem afp:vO bW:=by intro d n o x;cases d <;> rfl
theorem aeC (l:List lQ):fC 1 0 [⟨54,1,[bW l],true,1⟩] (.bR 0 1 0 0)=.addr (bW l):=by
 simp only [fC,Nat.not_lt_zero,if_false,gF,List.getElem?_cons_zero,Nat.zero_le,decide_true,Bool.and_self,BEq.rfl,if_true]
 rw [afp]
theorem FR (l:List lQ):ai Tryz.prog 50 [bW l] [] (.fn 74 [] [.addr (bW l)]) []:=by
 refine BU.a_ (T:=aP Tryz.prog []) 0 hD (aj ah) aU (by decide) fun Q hQ=>?_
 (conv=>arg 4;cbv);simp(maxSteps:=400000)only[↓aW,aX,BEq.rfl,reduceIte,reduceCtorEq,Nat.reduceLT,reduceAdd,reduceSub,reduceMul,Nat.reduceBEq,reduceLeDiff,reduceToNat,reduceLE,hQ]
 refine aT _ (Weak.freeze 1 0 (Nat.zero_le _) _) ?_
 simp(maxSteps:=400000)only[↓aW,aX,BEq.rfl,reduceIte,reduceCtorEq,Nat.reduceLT,reduceAdd,reduceSub,reduceMul,Nat.reduceBEq,reduceLeDiff,reduceToNat,reduceLE,hQ,aeC]
theorem adq (O:List Obj) :
  (∀ x X,(O++x::X)[O.length]?=some x)∧(∀ x y X,(O++x::y::X)[O.length+1]?=some y)∧(∀ x y z X,(O++x::y::z::X)[O.length+2]?=some z)∧
  (∀ x z X,(O++x::X).set O.length z=O++z::X)∧(∀ x y z X,(O++x::y::X).set (O.length+1) z=O++x::z::X)∧(∀ x y z u X,(O++x::y::z::X).set (O.length+2) u=O++x::y::u::X):=by
 refine ⟨fun x X=>?_,fun x y X=>?_,fun x y z X=>?_,fun x z X=>?_,fun x y z X=>?_,fun x y z u X=>?_⟩
 · rw [List.getElem?_append_right (Nat.le_refl _)];simp
 · rw [List.getElem?_append_right (by omega)];simp
 · rw [List.getElem?_append_right (by omega)];simp
 · rw [List.set_append_right _ _ (Nat.le_refl _)];simp
 · rw [List.set_append_right _ _ (by omega)];simp
 · rw [List.set_append_right _ _ (by omega)];simp
theorem VZ:PV.wz (.agg ⟨[.int .i64 0,.int .i64 0,.int .i64 0,.string ⟨⟨[]⟩⟩,.string ⟨⟨[]⟩⟩,.bool false,.int .i64 0]⟩)=dU ⟨0,⟨0,0,[],[],false,0⟩⟩:=rfl
def tZ (xs:List Nd) (ver:Nat):Obj:=⟨42,6,xs.map aA,true,ver⟩
def CX (a:lQ):List Nd:=if a.c.kind=3 then a.c::((if (cO a.c true).2 then [(cO a.c true).1] else [])++if (cO a.c false).2 then [(cO a.c false).1] else []) else []
def CY (a:lQ):List Nd:=if a.c.kind=4 then [a.c,⟨4,0,[],a.c.s++[0],false,0⟩] else []
theorem vG:∀ l,jv l=(l.map CX).flatten
 | []=>rfl
 | a::l=>by simp only [jv,List.map_cons,List.flatten_cons,vG l];rfl
theorem vH:∀ l,kR l=(l.map CY).flatten
 | []=>rfl
 | a::l=>by simp only [kR,List.map_cons,List.flatten_cons,vH l];rfl
theorem Jc {l:List lQ}{i:Nat}{a:lQ}(h:l[i]?=some a):jv (l.take (i+1))=jv (l.take i)++CX a:=by
 rw [vG,vG,List.take_add_one,h];simp
theorem Jd {l:List lQ}{i:Nat}{a:lQ}(h:l[i]?=some a):kR (l.take (i+1))=kR (l.take i)++CY a:=by
 rw [vH,vH,List.take_add_one,h];simp
theorem t_:∀ l:List lQ,(jv l).length≤3*l.length
 | []=>by simp [jv]
 | a::l=>by
  have:=t_ l
  simp only [jv,length_append,length_cons]
  split
  · simp only [length_cons,length_append]
    split <;> split <;> simp only [length_cons,length_nil] <;> omega
  · simp only [length_nil];omega
theorem yF:∀ l:List lQ,(kR l).length≤2*l.length
 | []=>by simp [kR]
 | a::l=>by
  have:=yF l
  simp only [kR,length_append,length_cons]
  split
  · simp only [length_cons,length_nil];omega
  · simp only [length_nil];omega
def CZ:List Nd:=[⟨0,0,[],[],false,0⟩,⟨1,0,[],[],false,0⟩,⟨2,0,[],[],false,0⟩,⟨3,0,[],[],false,0⟩]
def Gs (a:lQ) (b:Bool):List Nd:=if (cO a.c b).2 then [(cO a.c b).1] else []
theorem Ew {a:lQ}(h:a.c.kind=3):CX a=[a.c]++Gs a true++Gs a false:=by
 rw [CX,if_pos h];simp [Gs]
theorem vT (xs:List Nd) (n:Nd):List.map aA xs++[aA n]=List.map aA (xs++[n]):=by simp
theorem acC (xs:List Nd) (n m:Nd):List.map aA xs++[aA n,aA m]=List.map aA (xs++[n,m]):=by simp
theorem FT (n:Nd):Nd.mk n.kind n.many n.name n.s n.neg n.e=n:=rfl
theorem Rq (xs:List Nd) (ver:Nat):Obj.mk 42 6 (List.map aA xs) true ver=tZ xs ver:=rfl
theorem Om:(∀ xs v,(tZ xs v).live=true)∧(∀ xs v,(tZ xs v).ver=v)∧(∀ xs v,(tZ xs v).sz=6)∧(∀ xs v,(tZ xs v).ty=42)∧(∀ xs v,(tZ xs v).xs=List.map aA xs):=
 ⟨fun _ _=>rfl,fun _ _=>rfl,fun _ _=>rfl,fun _ _=>rfl,fun _ _=>rfl⟩
theorem aby {O:List Obj}(h:jR O) (xs:List Nd) (ver:Nat):jR (O++[tZ xs ver]):=by
 intro o ho x hx c hc
 rw [length_append]
 rcases List.mem_append.1 ho with ho | ho
 · have:=h o ho x hx c hc
   exact Hu (Nat.le_add_right _ _) this
 · rw [List.mem_singleton] at ho;subst ho
   obtain ⟨n,_,rfl⟩:=List.mem_map.1 hx
   simp only [aA,PV.cells,List.mem_cons,List.not_mem_nil,or_false] at hc
   rcases hc with rfl | rfl | rfl | rfl | rfl | rfl <;> rfl
theorem aeD {O:List Obj}(h:jR O) :
  (∀ d xs ver X,List.map (gM d (O.length+1) (O++tZ xs ver::X)) (List.take (O.length+1) (O++tZ xs ver::X))=O++[tZ xs ver])∧
  (∀ d X ver,fC d (O.length+1) X (.bA O.length ver)=.bA O.length ver)∧
  (∀ x (a:lQ),fC 1 (O.length+1) (O++[x,⟨87,7,[dU a],true,1⟩]) (.bR (O.length+1) 1 0 0)=.addr (dU a)):=by
 refine ⟨fun d xs ver X=>?_,fun d X ver=>?_,fun x a=>?_⟩
 · have e:List.take (O.length+1) (O++tZ xs ver::X)=O++[tZ xs ver]:=by
    rw [List.take_append,List.take_of_length_le (by omega)];simp
   rw [e]
   have:=F_ (d:=d) (objs':=O++tZ xs ver::X) (aby h xs ver)
   rwa [length_append] at this
 · simp [fC]
 · have:(O++[x,⟨87,7,[dU a],true,1⟩])[O.length+1]?=some ⟨87,7,[dU a],true,1⟩:=by
    rw [List.getElem?_append_right (by omega)];simp
   simp only [fC,lt_irrefl,if_false,gF,this,Nat.le_refl,decide_true,Bool.and_self,BEq.rfl,if_true]
   rfl
theorem acD {O:List Obj}(h:jR O) :
  (∀ d X,List.map (gM d O.length (O++X)) (List.take O.length (O++X))=O)∧
  (∀ xs v,fC 1 O.length (O++[tZ xs v]) (.bA O.length v)=aB xs):=by
 refine ⟨fun d X=>?_,fun xs v=>?_⟩
 · rw [List.take_append_of_le_length (Nat.le_refl _),take_length]
   exact F_ h
 · have:(O++[tZ xs v])[O.length]?=some (tZ xs v):=by
    rw [List.getElem?_append_right (Nat.le_refl _)];simp
   simp only [fC,lt_irrefl,if_false,gF,this,Om,Nat.le_refl,decide_true,Bool.and_self,BEq.rfl,if_true]
   rw [qC aA fun n=>rfl]
   rfl
theorem aeE {O:List Obj}(h:jR O) :
  (∀ d X,List.map (gM d O.length (O++X)) (List.take O.length (O++X))=O)∧
  (∀ n:Nd,fC 1 O.length (O++[⟨42,6,[aA n],true,1⟩]) (.bR O.length 1 0 0)=.addr (aA n)):=by
 refine ⟨(acD h).1,fun n=>?_⟩
 have:(O++[⟨42,6,[aA n],true,1⟩])[O.length]?=some ⟨42,6,[aA n],true,1⟩:=by
  rw [List.getElem?_append_right (Nat.le_refl _)];simp
 simp only [fC,lt_irrefl,if_false,gF,this,Nat.le_refl,decide_true,Bool.and_self,BEq.rfl,if_true]
 rfl
theorem UH (l:List lQ) (hl:l.length≤1000000) (hn:∀ a ∈ l,a.c.kind=3→Og a.c) (hs:∀ a ∈ l,a.c.s.length≤1000000):Gives Tryz.prog 74 [.addr (bW l)] ((gK l).map fun c=>[aA c]):=by
 refine yQ.gives (fnT:=uR [(75,nY)]) hD (af Oi ah) aU ?_
 intro I J objs y hI Jv Yu
 have hO:=(Jv 0 objs hI).2
 (conv=>arg 4;cbv);simp(maxSteps:=400000)only[↓aW,aX,BEq.rfl,reduceIte,reduceCtorEq,Nat.reduceLT,reduceAdd,reduceSub,reduceMul,Nat.reduceBEq,reduceLeDiff,reduceToNat,reduceLE,bI,bJ]
 refine aF (fun m S=>∃ (i ver:Nat),i+m=l.length∧S=⟨dz 90 [(0,.Fx y),(1,.addr (bW l)),(3,.bA objs.length ver),(19,bW l),(20,.int .i64 l.length),(21,.int .i64 i)],objs++[tZ (CZ++jv (l.take i)) ver]⟩) l.length ⟨0,1,by omega,?_⟩ ?_
 · simp only [bG,keepR,reduceAdd,kS,Nat.reduceBEq,map_nil]
   rfl
 rintro m S ⟨i,ver,him,rfl⟩
 rcases lt_or_ge i l.length with h | h
 · have hlt:((i:Int)<(l.length:Int))=True:=eq_true (by omega)
   have zi:(0≤(i:Int))=True:=eq_true (by omega)
   have hgi:=List.getElem?_eq_getElem h
   generalize l[i]=a at hgi
   have oB:=adq objs
   have oF:=aeD hO
   have hxl:(CZ++jv (l.take i)).length≤4+3*i:=by
    have h1:=t_ (l.take i)
    have h2:(l.take i).length≤i:=List.length_take_le i l
    have h3:CZ.length=4:=rfl
    rw [length_append];omega
   have htk:=Jc hgi
   have c0:CZ++jv (l.take (i+1))=(CZ++jv (l.take i))++CX a:=by rw [htk,append_assoc]
   generalize hX:CZ++jv (l.take i)=X at hxl c0
   by_cases hk:a.c.kind=3
   rotate_left 1
   · have k3:(a.c.kind=3)=False:=eq_false hk
     simp(maxSteps:=400000)only[↓aW,aX,BEq.rfl,reduceIte,reduceCtorEq,Nat.reduceLT,reduceAdd,reduceSub,reduceMul,Nat.reduceBEq,reduceLeDiff,reduceToNat,reduceLE,hlt,zi,hgi,k3,oB,VZ,FT,append_assoc,cons_append,nil_append,length_append,length_cons,length_nil]
     refine aT _ (Weak.freeze 1 (objs.length+1) (le_succ _) _) ?_
     simp(maxSteps:=400000)only[↓aW,aX,BEq.rfl,reduceIte,reduceCtorEq,Nat.reduceLT,reduceAdd,reduceSub,reduceMul,Nat.reduceBEq,reduceLeDiff,reduceToNat,reduceLE,oF]
     have e1:CX a=[]:=if_neg hk
     exact ⟨⟨by omega,by omega⟩,m-1,by omega,i+1,ver,by omega,by rw [c0,e1,append_nil];rfl⟩
   · have k3:(a.c.kind=3)=True:=eq_true hk
     have abz:=hn a (List.mem_of_getElem? hgi) hk
     simp(maxSteps:=400000)only[↓aW,aX,BEq.rfl,reduceIte,reduceCtorEq,Nat.reduceLT,reduceAdd,reduceSub,reduceMul,Nat.reduceBEq,reduceLeDiff,reduceToNat,reduceLE,hlt,zi,hgi,k3,oB,VZ,bI,bJ,FT,Om,append_assoc,cons_append,nil_append,length_append,length_cons,length_nil,length_map,vT,Rq]
     refine ⟨by omega,by omega,?_⟩
     refine aT _ (Weak.freeze 1 (objs.length+1) (le_succ _) _) ?_
     simp(maxSteps:=400000)only[↓aW,aX,BEq.rfl,reduceIte,reduceCtorEq,Nat.reduceLT,reduceAdd,reduceSub,reduceMul,Nat.reduceBEq,reduceLeDiff,reduceToNat,reduceLE,oF]
     have l1:(Gs a true).length≤1:=by unfold Gs;split <;> simp
     have l2:(Gs a false).length≤1:=by unfold Gs;split <;> simp
     have st:∀ (j:Int) (xs:List Nd) (v:Nat),St:=fun j xs v=>⟨dz 90 [(0,.Fx y),(1,.addr (bW l)),(3,.bA objs.length v),(5,.addr (dU a)),(19,bW l),(20,.int .i64 l.length),(21,.int .i64 i),(34,.sl 1 [.bool true,.bool false] none),(35,.int .i64 ((2:Nat):Int)),(36,.int .i64 j)],objs++[tZ xs v]⟩
     refine aF (fun m' S=>∃ (v:Nat) (j:Int) (xs:List Nd),(j=0∧m'=2∧xs=X++[a.c]∨j=1∧m'=1∧xs=X++[a.c]++Gs a true∨j=2∧m'=0∧xs=X++[a.c]++Gs a true++Gs a false)∧S=⟨dz 90 [(0,.Fx y),(1,.addr (bW l)),(3,.bA objs.length v),(5,.addr (dU a)),(19,bW l),(20,.int .i64 l.length),(21,.int .i64 i),(34,.sl 1 [.bool true,.bool false] none),(35,.int .i64 ((2:Nat):Int)),(36,.int .i64 j)],objs++[tZ xs v]⟩) 2 ⟨ver+1,0,_,.inl ⟨rfl,rfl,rfl⟩,?_⟩ ?_
     · simp only [bG,keepR,reduceAdd,kS,Nat.reduceBEq,map_nil]
     rintro m' S ⟨v,j,xs,hj,rfl⟩
     have n2:((2:Nat):Int)=2:=rfl
     rcases hj with ⟨rfl,rfl,hxs⟩ | ⟨rfl,rfl,hxs⟩ | ⟨rfl,rfl,hxs⟩
     · have Yd:xs.length≤8+3*i:=by rw [hxs];simp only [length_append,length_cons,length_nil];omega
       cases hb:(cO a.c true).2
       · simp(maxSteps:=400000)only[↓aW,aX,BEq.rfl,reduceIte,reduceCtorEq,Nat.reduceLT,reduceAdd,reduceSub,reduceMul,Nat.reduceBEq,reduceLeDiff,reduceToNat,reduceLE,n2,Int.reduceLT,oB,bI,bJ,FT,Om,↓nY,dV,hb,bU,append_assoc,cons_append,nil_append,length_append,length_cons,length_nil,length_map,vT,Rq]
         refine ⟨abz,?_⟩
         refine aT _ (Weak.freeze 1 (objs.length+1) (le_succ _) _) ?_
         simp(maxSteps:=400000)only[↓aW,aX,BEq.rfl,reduceIte,reduceCtorEq,Nat.reduceLT,reduceAdd,reduceSub,reduceMul,Nat.reduceBEq,reduceLeDiff,reduceToNat,reduceLE,oF]
         have hbs:Gs a true=[]:=by simp [Gs,hb]
         exact ⟨⟨by omega,by omega⟩,1,by omega,v,1,xs,.inr (.inl ⟨rfl,rfl,by rw [hxs,hbs,append_nil]⟩),rfl⟩
       · simp(maxSteps:=400000)only[↓aW,aX,BEq.rfl,reduceIte,reduceCtorEq,Nat.reduceLT,reduceAdd,reduceSub,reduceMul,Nat.reduceBEq,reduceLeDiff,reduceToNat,reduceLE,n2,Int.reduceLT,oB,bI,bJ,FT,Om,↓nY,dV,hb,bU,append_assoc,cons_append,nil_append,length_append,length_cons,length_nil,length_map,vT,Rq]
         refine ⟨abz,by omega,by omega,?_⟩
         refine aT _ (Weak.freeze 1 (objs.length+1) (le_succ _) _) ?_
         simp(maxSteps:=400000)only[↓aW,aX,BEq.rfl,reduceIte,reduceCtorEq,Nat.reduceLT,reduceAdd,reduceSub,reduceMul,Nat.reduceBEq,reduceLeDiff,reduceToNat,reduceLE,oF]
         have hbs:Gs a true=[(cO a.c true).1]:=by simp [Gs,hb]
         exact ⟨⟨by omega,by omega⟩,1,by omega,v+1,1,xs++[(cO a.c true).1],.inr (.inl ⟨rfl,rfl,by rw [hxs,hbs]⟩),rfl⟩
     · have Yd:xs.length≤8+3*i:=by rw [hxs];simp only [length_append,length_cons,length_nil];omega
       cases hb:(cO a.c false).2
       · simp(maxSteps:=400000)only[↓aW,aX,BEq.rfl,reduceIte,reduceCtorEq,Nat.reduceLT,reduceAdd,reduceSub,reduceMul,Nat.reduceBEq,reduceLeDiff,reduceToNat,reduceLE,n2,Int.reduceLT,oB,bI,bJ,FT,Om,↓nY,dV,hb,bU,append_assoc,cons_append,nil_append,length_append,length_cons,length_nil,length_map,vT,Rq]
         refine ⟨abz,?_⟩
         refine aT _ (Weak.freeze 1 (objs.length+1) (le_succ _) _) ?_
         simp(maxSteps:=400000)only[↓aW,aX,BEq.rfl,reduceIte,reduceCtorEq,Nat.reduceLT,reduceAdd,reduceSub,reduceMul,Nat.reduceBEq,reduceLeDiff,reduceToNat,reduceLE,oF]
         have hbs:Gs a false=[]:=by simp [Gs,hb]
         exact ⟨⟨by omega,by omega⟩,0,by omega,v,2,xs,.inr (.inr ⟨rfl,rfl,by rw [hxs,hbs,append_nil]⟩),rfl⟩
       · simp(maxSteps:=400000)only[↓aW,aX,BEq.rfl,reduceIte,reduceCtorEq,Nat.reduceLT,reduceAdd,reduceSub,reduceMul,Nat.reduceBEq,reduceLeDiff,reduceToNat,reduceLE,n2,Int.reduceLT,oB,bI,bJ,FT,Om,↓nY,dV,hb,bU,append_assoc,cons_append,nil_append,length_append,length_cons,length_nil,length_map,vT,Rq]
         refine ⟨abz,by omega,by omega,?_⟩
         refine aT _ (Weak.freeze 1 (objs.length+1) (le_succ _) _) ?_
         simp(maxSteps:=400000)only[↓aW,aX,BEq.rfl,reduceIte,reduceCtorEq,Nat.reduceLT,reduceAdd,reduceSub,reduceMul,Nat.reduceBEq,reduceLeDiff,reduceToNat,reduceLE,oF]
         have hbs:Gs a false=[(cO a.c false).1]:=by simp [Gs,hb]
         exact ⟨⟨by omega,by omega⟩,0,by omega,v+1,2,xs++[(cO a.c false).1],.inr (.inr ⟨rfl,rfl,by rw [hxs,hbs]⟩),rfl⟩
     · simp(maxSteps:=400000)only[↓aW,aX,BEq.rfl,reduceIte,reduceCtorEq,Nat.reduceLT,reduceAdd,reduceSub,reduceMul,Nat.reduceBEq,reduceLeDiff,reduceToNat,reduceLE,n2,Int.reduceLT]
       refine aT _ (Weak.freeze 1 (objs.length+1) (le_succ _) _) ?_
       simp(maxSteps:=400000)only[↓aW,aX,BEq.rfl,reduceIte,reduceCtorEq,Nat.reduceLT,reduceAdd,reduceSub,reduceMul,Nat.reduceBEq,reduceLeDiff,reduceToNat,reduceLE,oF]
       exact ⟨⟨by omega,by omega⟩,m-1,by omega,i+1,v,by omega,by rw [c0,Ew hk,hxs,append_assoc,append_assoc,append_assoc];rfl⟩
 · have hlt:((i:Int)<(l.length:Int))=False:=eq_false (by omega)
   have oB:=adq objs
   have oF:=aeD hO
   have hxl:(CZ++jv (l.take i)).length≤4+3*i:=by
    have h1:=t_ (l.take i)
    have h2:(l.take i).length≤i:=List.length_take_le i l
    have h3:CZ.length=4:=rfl
    rw [length_append];omega
   have hi:i=l.length:=by omega
   rw [hi,take_length]
   rw [hi,take_length] at hxl
   generalize hX:CZ++jv l=X at hxl
   have hlt2:((l.length:Int)<(l.length:Int))=False:=eq_false (by omega)
   simp(maxSteps:=400000)only[↓aW,aX,BEq.rfl,reduceIte,reduceCtorEq,Nat.reduceLT,reduceAdd,reduceSub,reduceMul,Nat.reduceBEq,reduceLeDiff,reduceToNat,reduceLE,hlt2,oB,bI,bJ,FT,Om,append_assoc,cons_append,nil_append,length_append,length_cons,length_nil,length_map,vT,Rq]
   refine ⟨by omega,by omega,?_⟩
   refine aF (fun m S=>∃ (i ver:Nat),i+m=l.length∧S=⟨dz 90 [(0,.Fx y),(3,.bA objs.length ver),(58,bW l),(59,.int .i64 l.length),(60,.int .i64 i)],objs++[tZ (X++⟨4,0,[],[],false,0⟩::kR (l.take i)) ver]⟩) l.length ⟨0,ver+1,by omega,?_⟩ ?_
   · simp only [bG,keepR,reduceAdd,kS,Nat.reduceBEq,map_nil]
     rfl
   rintro m S ⟨i,ver,him,rfl⟩
   have Yd:(X++⟨4,0,[],[],false,0⟩::kR (l.take i)).length≤8+3*l.length+2*i:=by
    have h1:=yF (l.take i)
    have h2:(l.take i).length≤i:=List.length_take_le i l
    rw [length_append,length_cons];omega
   rcases lt_or_ge i l.length with h | h
   · have hlt:((i:Int)<(l.length:Int))=True:=eq_true (by omega)
     have zi:(0≤(i:Int))=True:=eq_true (by omega)
     have hgi:=List.getElem?_eq_getElem h
     generalize l[i]=a at hgi
     have has:=hs a (List.mem_of_getElem? hgi)
     have c0:X++⟨4,0,[],[],false,0⟩::kR (l.take (i+1))=(X++⟨4,0,[],[],false,0⟩::kR (l.take i))++CY a:=by rw [Jd hgi];simp
     generalize hY:X++⟨4,0,[],[],false,0⟩::kR (l.take i)=Y at Yd c0
     by_cases hk:a.c.kind=4
     rotate_left 1
     · have k4:(a.c.kind=4)=False:=eq_false hk
       simp(maxSteps:=400000)only[↓aW,aX,BEq.rfl,reduceIte,reduceCtorEq,Nat.reduceLT,reduceAdd,reduceSub,reduceMul,Nat.reduceBEq,reduceLeDiff,reduceToNat,reduceLE,hlt,zi,hgi,k4,oB,VZ,bI,bJ,FT,Om,append_assoc,cons_append,nil_append,length_append,length_cons,length_nil,length_map,vT,acC,Rq]
       refine aT _ (Weak.freeze 1 (objs.length+1) (le_succ _) _) ?_
       simp(maxSteps:=400000)only[↓aW,aX,BEq.rfl,reduceIte,reduceCtorEq,Nat.reduceLT,reduceAdd,reduceSub,reduceMul,Nat.reduceBEq,reduceLeDiff,reduceToNat,reduceLE,oF]
       have e1:CY a=[]:=if_neg hk
       exact ⟨⟨by omega,by omega⟩,m-1,by omega,i+1,ver,by omega,by rw [c0,e1,append_nil];rfl⟩
     · have k4:(a.c.kind=4)=True:=eq_true hk
       simp(maxSteps:=400000)only[↓aW,aX,BEq.rfl,reduceIte,reduceCtorEq,Nat.reduceLT,reduceAdd,reduceSub,reduceMul,Nat.reduceBEq,reduceLeDiff,reduceToNat,reduceLE,hlt,zi,hgi,k4,oB,VZ,bI,bJ,FT,Om,append_assoc,cons_append,nil_append,length_append,length_cons,length_nil,length_map,vT,acC,Rq]
       refine ⟨by omega,fun y hy=>by simp only [List.mem_cons,List.not_mem_nil,or_false] at hy;rcases hy with rfl | rfl <;> exact ⟨rfl,rfl⟩,by omega,by omega,?_⟩
       refine aT _ (Weak.freeze 1 (objs.length+1) (le_succ _) _) ?_
       simp(maxSteps:=400000)only[↓aW,aX,BEq.rfl,reduceIte,reduceCtorEq,Nat.reduceLT,reduceAdd,reduceSub,reduceMul,Nat.reduceBEq,reduceLeDiff,reduceToNat,reduceLE,oF]
       have e1:CY a=[a.c,⟨4,0,[],a.c.s++[0],false,0⟩]:=if_pos hk
       exact ⟨⟨by omega,by omega⟩,m-1,by omega,i+1,ver+1,by omega,by rw [c0,e1];rfl⟩
   have hi:i=l.length:=by omega
   have hlt2:((l.length:Int)<(l.length:Int))=False:=eq_false (by omega)
   rw [hi,take_length]
   rw [hi,take_length] at Yd
   have hC:X++⟨4,0,[],[],false,0⟩::kR l=gK l:=by rw [← hX];rfl
   rw [hC]
   rw [hC] at Yd
   generalize gK l=C at Yd
   simp(maxSteps:=400000)only[↓aW,aX,BEq.rfl,reduceIte,reduceCtorEq,Nat.reduceLT,reduceAdd,reduceSub,reduceMul,Nat.reduceBEq,reduceLeDiff,reduceToNat,reduceLE,hlt2]
   refine aT _ (Weak.freeze 1 objs.length (Nat.le_refl _) _) ?_
   have o1:=acD hO
   simp(maxSteps:=400000)only[↓aW,aX,BEq.rfl,reduceIte,reduceCtorEq,Nat.reduceLT,reduceAdd,reduceSub,reduceMul,Nat.reduceBEq,reduceLeDiff,reduceToNat,reduceLE,o1]
   refine aF (fun m S=>∃ (i:Nat) (O:List Obj),i+m=C.length∧I i O∧S=⟨dz 90 [(0,.Fx y),(79,aB C),(80,.int .i64 C.length),(81,.int .i64 i)],O⟩) C.length ⟨0,objs,by omega,hI,?_⟩ ?_
   · simp only [bG,keepR,reduceAdd,kS,Nat.reduceBEq,map_nil]
     rfl
   rintro m S ⟨i,O,him,hIi,rfl⟩
   have hOl:=(Jv i O hIi).1
   have hOO:=(Jv i O hIi).2
   rcases lt_or_ge i C.length with h | h
   · have hlt:((i:Int)<(C.length:Int))=True:=eq_true (by omega)
     have zi:(0≤(i:Int))=True:=eq_true (by omega)
     have hgi:=List.getElem?_eq_getElem h
     generalize C[i]=c at hgi
     have oB:=adq O
     simp(maxSteps:=400000)only[↓aW,aX,BEq.rfl,reduceIte,reduceCtorEq,Nat.reduceLT,reduceAdd,reduceSub,reduceMul,Nat.reduceBEq,reduceLeDiff,reduceToNat,reduceLE,hlt,zi,hgi,oB,bI,bJ,FT]
     refine aT _ (Weak.freeze 1 O.length hOl _) ?_
     have o2:=aeE hOO
     simp(maxSteps:=400000)only[↓aW,aX,BEq.rfl,reduceIte,reduceCtorEq,Nat.reduceLT,reduceAdd,reduceSub,reduceMul,Nat.reduceBEq,reduceLeDiff,reduceToNat,reduceLE,o2,Yt]
     refine ⟨rfl,i,hIi,by rw [hgi];rfl,fun O' hI'=>⟨⟨by omega,by omega⟩,m-1,by omega,i+1,O',by omega,hI',rfl⟩,fun O' hJ'=>⟨.inr rfl,.inr ⟨i,h,hJ'⟩⟩⟩
   · have hlt:((i:Int)<(C.length:Int))=False:=eq_false (by omega)
     simp(maxSteps:=400000)only[↓aW,aX,BEq.rfl,reduceIte,reduceCtorEq,Nat.reduceLT,reduceAdd,reduceSub,reduceMul,Nat.reduceBEq,reduceLeDiff,reduceToNat,reduceLE,hlt]
     have hi:i=C.length:=by omega
     subst hi
     exact ⟨.inl rfl,.inl hIi⟩
end Lp
namespace Lp
open Go Go.Proofs Go.RowKit
open List (mem_cons mem_singleton not_mem_nil)
open Nat (reduceAdd reduceLeDiff reduceMul reduceSub)
open Int (reduceLE reduceToNat)
def C8:dJ:=fun args objs K=>match args with
 | [a0]=>fU bW a0 (HK.mk:HK fun l=>K (.fn 74 [] [.addr (bW l)]) objs 0)
 | _=>False
theorem Rs:aD Tryz.prog 50 (C8):=by
 intro args objs K h
 unfold C8 at h
 split at h
 · rename_i a0
   obtain ⟨l,rfl,hk⟩:=h
   exact ⟨_,_,_,.pure _ rfl (FR l),hk⟩
 · exact h.elim
def C9:dJ:=fun args objs K=>match args with
 | [.int .i64 mask,a1,a2]=>fU bW a1 (HK.mk:HK fun l=>fU aA a2 (HK.mk:HK fun n=>(0≤mask∧mask≤31)∧(l.length≤1000000)∧(∀ a ∈ l,fO a.c)∧(su n)∧(n.s.length≤1000000)∧K (.bool (bO mask l n)) objs 0))
 | _=>False
theorem UI:aD Tryz.prog 51 (C9):=by
 intro args objs K h
 unfold C9 at h
 split at h
 · rename_i mask a1 a2
   obtain ⟨l,rfl,n,rfl,h1,h2,h3,h4,h5,hk⟩:=h
   exact ⟨_,_,_,.pure _ rfl (NV mask l n h1 h2 h3 h4 h5),hk⟩
 · exact h.elim
def leO (mask:Int) (l:List lQ) (x:Nd) (b:Bool):List Obj:=[⟨3,1,[.int .i64 mask],true,1⟩,⟨54,1,[bW l],true,1⟩,⟨42,6,[aA x],true,1⟩,⟨4,1,[.bool b],true,1⟩]
theorem Je (mask:Int) (l:List lQ) (x:Nd) (b:Bool):fB (leO mask l x b++[Dq,hole]):=by
 intro o ho y hy c hc
 simp only [leO,List.cons_append,List.nil_append,mem_cons,not_mem_nil,or_false] at ho
 rcases ho with rfl | rfl | rfl | rfl | rfl | rfl
 · simp only [mem_singleton] at hy;subst hy
   simp only [PV.cells,mem_singleton] at hc;subst hc;rfl
 · simp only [mem_singleton] at hy;subst hy
   simp only [bW,PV.cells,mem_singleton] at hc;subst hc;rfl
 · simp only [mem_singleton] at hy;subst hy
   simp only [aA,PV.cells,mem_cons,not_mem_nil,or_false] at hc
   rcases hc with rfl | rfl | rfl | rfl | rfl | rfl <;> rfl
 · simp only [mem_singleton] at hy;subst hy
   simp only [PV.cells,mem_singleton] at hc;subst hc;rfl
 · cases hy
 · cases hy
theorem aap (mask:Int) (l:List lQ) (x:Nd) (b:Bool):Gh 4 (leO mask l x b++[Dq,hole]):=⟨Nat.le_refl _,(Je mask l x b).lt,rfl,rfl⟩
def lW (mask:Int) (l:List lQ):PV:=.bP [aA (jd mask l).1,.bool (jd mask l).2]
theorem UJ (l:List Nd):∀ y ∈ l.map (fun s=>[aA s]),y.length=1:=by
 intro y hy
 obtain ⟨p,_,rfl⟩:=List.mem_map.1 hy
 rfl
theorem UK {l:List Nd}{i:Nat}{args:List PV}(h:(l.map fun s=>[aA s])[i]?=some args):∃ s,l[i]?=some s∧args=[aA s]:=by
 rw [List.getElem?_map] at h
 cases hx:l[i]? with
 | none=>rw [hx] at h;simp at h
 | some p=>rw [hx] at h;exact ⟨p,rfl,by simpa using h.symm⟩
theorem LP {mask:Int}{l:List lQ}{i:Nat}{c:Nd}(h:(gK l)[i]?=some c) (hm:bO mask l c=true) (hb:∀ (j:Nat) d,j<i→(gK l)[j]?=some d→bO mask l d=false):jd mask l=(c,true):=by
 have:(gK l).find? (fun n=>bO mask l n)=some c:=by
  rw [List.find?_eq_some_iff_getElem]
  obtain ⟨hi,he⟩:=List.getElem?_eq_some_iff.1 h
  refine ⟨hm,i,hi,he,fun j hj=>?_⟩
  have:=hb j _ hj (List.getElem?_eq_getElem (by omega))
  simp [this]
 simp [jd,this]
theorem Jf {mask:Int}{l:List lQ}(hb:∀ (j:Nat) d,(gK l)[j]?=some d→bO mask l d=false):jd mask l=(aV,false):=by
 have:(gK l).find? (fun n=>bO mask l n)=none:=by
  rw [List.find?_eq_none]
  intro x hx
  obtain ⟨i,hi⟩:=List.mem_iff_getElem?.1 hx
  simp [hb i x hi]
 simp [jd,this]
theorem Ru (mask:Int) (l:List lQ) (x:Nd) (b:Bool) (o:Obj) (tm:List PV):(St.norm [] (some (1,6)) ⟨tm,leO mask l x b++[Dq,hole,o]⟩).objs=leO mask l x b++[Dq,hole]:=
 F_ (objs:=leO mask l x b++[Dq,hole]) (Je mask l x b).lt
theorem fO.num {n:Nd}(h:fO n) (hk:n.kind=3):Og n:=by
 have hb:=(oK n).1 (qB (jr h.sc).1 hk)
 refine ⟨hb.2.2.1,hb.2.1,hb.2.2.2.1,hb.2.2.2.2.1,fun hs=>?_⟩
 have hl:=hb.2.2.2.2.2.2
 rw [if_neg hs] at hl
 unfold Lib.trimRightB
 have hne:n.s.reverse≠[]:=by simpa using hs
 obtain ⟨x,r,hx⟩:=List.exists_cons_of_ne_nil hne
 have hx0:x≠48:=fun e=>hl.2 (by rw [← List.head?_reverse,hx,e];rfl)
 have:(x==(48:UInt8))=false:=by simpa using hx0
 rw [hx,List.dropWhile_cons,this]
 simp
theorem UL (neg:Bool) (f:List UInt8) (e:Int):(dM neg f e).1.name=[]:=by
 unfold dM
 split
 · rfl
 split
 · rfl
 split
 · rfl
 split <;> rfl
theorem Oo (n:Nd) (b:Bool):(cO n b).1.s.length≤100∧(cO n b).1.name=[]:=by
 unfold cO
 split
 · exact ⟨by simp,rfl⟩
 · exact ⟨X7 _ _ _,UL _ _ _⟩
theorem Jg {l:List lQ}(hc:∀ a ∈ l,fO a.c) (hs:∀ a ∈ l,a.c.s.length≤500000):∀ c ∈ gK l,su c∧c.s.length≤500001:=by
 have key:∀ c:Nd,c.name=[]→c.s.length≤500001→su c∧c.s.length≤500001:=fun c h1 h2=>⟨⟨by omega,by rw [h1];simp⟩,h2⟩
 intro c hcm
 simp only [gK,List.mem_append,mem_cons,not_mem_nil,or_false,vG,vH,List.mem_flatten,List.mem_map] at hcm
 rcases hcm with ((rfl | rfl | rfl | rfl) | ⟨x,⟨a,ha,rfl⟩,hx⟩) | rfl | ⟨x,⟨a,ha,rfl⟩,hx⟩
 · exact key _ rfl (by simp)
 · exact key _ rfl (by simp)
 · exact key _ rfl (by simp)
 · exact key _ rfl (by simp)
 · by_cases hk:a.c.kind=3
   · rw [Ew hk] at hx
     simp only [List.mem_append,mem_cons,not_mem_nil,or_false] at hx
     have hb:∀ b,c ∈ Gs a b→su c∧c.s.length≤500001:=fun b hb=>by
      unfold Gs at hb
      split at hb
      · rw [mem_singleton] at hb;subst hb
        have:=Oo a.c b
        exact key _ this.2 (by omega)
      · cases hb
     rcases hx with (rfl | hx) | hx
     · exact key _ (jr (hc a ha).sc).2.1 (by have:=hs a ha;omega)
     · exact hb _ hx
     · exact hb _ hx
   · rw [show CX a=[] from if_neg hk] at hx;cases hx
 · exact key _ rfl (by simp)
 · by_cases hk:a.c.kind=4
   · rw [show CY a=[a.c,⟨4,0,[],a.c.s++[0],false,0⟩] from if_pos hk] at hx
     have hsa:=hs a ha
     simp only [mem_cons,not_mem_nil,or_false] at hx
     rcases hx with rfl | rfl
     · exact key _ (jr (hc a ha).sc).2.1 (by omega)
     · exact key _ rfl (by simp;omega)
   · rw [show CY a=[] from if_neg hk] at hx;cases hx
theorem UM (mask:Int) (l:List lQ) (hm:0≤mask∧mask≤31) (hl:l.length≤1000000) (hc:∀ a ∈ l,fO a.c) (hs:∀ a ∈ l,a.c.s.length≤500000):ai Tryz.prog 27 [.int .i64 mask,bW l] [] (lW mask l) []:=by
 refine MV.adk (T:=aP Tryz.prog [(50,C8),(51,C9)]) 1 hD (aj (af Rs (af UI ah))) aU (by decide) (by decide) fun Q hQ=>?_
 have hgv:=UH l hl (fun a ha hk=>(hc a ha).num hk) (fun a ha=>by have:=hs a ha;omega)
 (conv=>arg 4;cbv);simp(maxSteps:=400000)only[↓aW,aX,BEq.rfl,reduceIte,reduceCtorEq,Nat.reduceLT,reduceAdd,reduceSub,reduceMul,Nat.reduceBEq,reduceLeDiff,reduceToNat,reduceLE,hQ,↓C8,bI,bJ]
 refine abe 74 [.addr (bW l)] ((gK l).map fun c=>[aA c])
  (fun i O=>(∀ (j:Nat) d,j<i→(gK l)[j]?=some d→bO mask l d=false)∧i≤(gK l).length∧O=leO mask l ⟨0,0,[],[],false,0⟩ false++[Dq,hole])
  (fun i O=>∃ c,(gK l)[i]?=some c∧bO mask l c=true∧(∀ (j:Nat) d,j<i→(gK l)[j]?=some d→bO mask l d=false)∧O=leO mask l c true++[Dq,hole]) .ret rfl rfl rfl rfl (Nat.le_refl _) hgv (UJ _) ⟨fun j q h=>absurd h (Nat.not_lt_zero j),Nat.zero_le _,rfl⟩ ?_ ?_ ?_ ?_ ?_
 · rintro i O ⟨_,_,rfl⟩
   exact aap _ _ _ _
 · rintro i O ⟨c,_,_,_,rfl⟩
   exact ⟨aap _ _ _ _,Je _ _ _ _⟩
 · rintro i args O ⟨hb,hi,rfl⟩ ha
   obtain ⟨c,hci,rfl⟩:=UK ha
   have hil:=(List.getElem?_eq_some_iff.1 hci).1
   unfold leO
   have hsm:=Jg hc hs c (List.mem_of_getElem? hci)
   cases he:bO mask l c
   · simp(maxSteps:=400000)only[↓aW,aX,BEq.rfl,reduceIte,reduceCtorEq,Nat.reduceLT,reduceAdd,reduceSub,reduceMul,Nat.reduceBEq,reduceLeDiff,reduceToNat,reduceLE,hQ,qX,knI,bI,bJ,FT,↓C9,he]
     refine ⟨hm,hl,hc,hsm.1,by omega,fun j d hj hd=>?_,by omega,Ru mask l ⟨0,0,[],[],false,0⟩ false _ _⟩
     rcases Nat.lt_or_ge j i with g | g
     · exact hb j d g hd
     · have:j=i:=by omega
       subst this
       rw [hci] at hd;cases hd;exact he
   · simp(maxSteps:=400000)only[↓aW,aX,BEq.rfl,reduceIte,reduceCtorEq,Nat.reduceLT,reduceAdd,reduceSub,reduceMul,Nat.reduceBEq,reduceLeDiff,reduceToNat,reduceLE,hQ,qX,knI,bI,bJ,FT,↓C9,he]
     exact ⟨hm,hl,hc,hsm.1,by omega,rfl,c,hci,he,hb,Ru mask l c true _ _⟩
 · rintro O ⟨hb,hi,rfl⟩
   unfold leO
   simp(maxSteps:=400000)only[↓aW,aX,BEq.rfl,reduceIte,reduceCtorEq,Nat.reduceLT,reduceAdd,reduceSub,reduceMul,Nat.reduceBEq,reduceLeDiff,reduceToNat,reduceLE,hQ,bI,bJ]
   have hr:lW mask l=.bP [aA aV,.bool false]:=by
    have:=Jf (mask:=mask) (l:=l) fun j d hd=>hb j d (by rw [List.length_map];exact (List.getElem?_eq_some_iff.1 hd).1) hd
    simp [lW,this]
   exact ⟨by decide,rfl,by rw [hr];rfl⟩
 · rintro i O hi ⟨c,hci,he,hb,rfl⟩
   unfold leO
   simp(maxSteps:=400000)only[↓aW,aX,BEq.rfl,reduceIte,reduceCtorEq,Nat.reduceLT,reduceAdd,reduceSub,reduceMul,Nat.reduceBEq,reduceLeDiff,reduceToNat,reduceLE,hQ,bI,bJ]
   have hr:lW mask l=.bP [aA c,.bool true]:=by
    simp [lW,LP hci he hb]
   rw [hr]
   exact ⟨_,_,rfl,rfl,rfl,rfl,Nat.le_refl _,rfl,_,_,rfl,rfl,rfl,rfl,Nat.le_refl _,rfl,rfl⟩
def C_:dJ:=fun args objs K=>match args with
 | [.int .i64 mask,a1]=>fU bW a1 (HK.mk:HK fun l=>(0≤mask∧mask≤31)∧(l.length≤1000000)∧(∀ a ∈ l,fO a.c)∧(∀ a ∈ l,a.c.s.length≤500000)∧K (lW mask l) objs 0)
 | _=>False
theorem Rv:aD Tryz.prog 27 (C_):=by
 intro args objs K h
 unfold C_ at h
 split at h
 · rename_i mask a1
   obtain ⟨l,rfl,h1,h2,h3,h4,hk⟩:=h
   exact ⟨_,_,_,.pure _ rfl (UM mask l h1 h2 h3 h4),hk⟩
 · exact h.elim
end Lp
namespace Lp
open Go Go.Proofs Go.RowKit
open List (append_assoc append_nil getElem_mem length_append length_cons length_nil map_nil take_succ_cons take_zero)
open Nat (lt_or_ge reduceAdd reduceLeDiff reduceMul reduceSub)
open Int (reduceLE reduceToNat)
theorem Ye {neg:Bool}{f:List UInt8}{e:Int}(h:¬ (dM neg f e).2=0):(dM neg f e).1=aV:=by
 unfold dM at h ⊢
 split
 · rfl
 · rename_i h1
   rw [if_neg h1] at h
   split
   · rename_i h2;rw [if_pos h2] at h;exact absurd rfl h
   · rename_i h2
     rw [if_neg h2] at h
     split
     · rfl
     · rename_i h3
       rw [if_neg h3] at h
       split
       · rfl
       · rename_i h4;rw [if_neg h4] at h;exact absurd rfl h
theorem Jh (n:Nd) (above:Bool) (hn:Og n):ai Tryz.prog 87 [aA n,.bool above] [] (dV n above) []:=by
 refine yY.Jb (T:=aP Tryz.prog [(114,ng),(111,kP),(112,CW),(113,vF)]) 0 hD (aj (af Rl (af Ol (af UD (af UE ah))))) aU (by decide) (by decide) fun Q hQ=>?_
 by_cases hs:n.s=[]
 · have hr:dV n above=.bP [aA ⟨3,0,[],[49],!above,-1000⟩,.bool true]:=by simp [dV,cO,hs]
   (conv=>arg 4;cbv);simp(maxSteps:=400000)only[↓aW,aX,BEq.rfl,reduceIte,reduceCtorEq,Nat.reduceLT,reduceAdd,reduceSub,reduceMul,Nat.reduceBEq,reduceLeDiff,reduceToNat,reduceLE,hQ,hs,hr,bI,bJ]
   repeat' (first | omega | exact rfl | refine ⟨?_,?_⟩)
 have hs':(n.s=[])=False:=eq_false hs
 have l1:=hn.len
 have l2:=hn.lo
 have l3:=hn.hi
 have hE:∀ T:Int,jS n above=max (T-100) (-1000)→(if (-1000:Int) > T-100 then (-1000:Int) else T-100)=jS n above:=fun T h=>by rw [h];split <;> omega
 have l4:(0:Int)<n.s.length:=by
  cases h:n.s with
  | nil=>exact absurd h hs
  | cons x r=>simp
 have hEb:-1000≤jS n above∧jS n above≤1000∧jS n above≤n.e:=by
  unfold jS
  split <;> omega
 generalize Vy:jS n above=E at *
 have FQ:mE n E=n.s++List.replicate (n.e-E).toNat 48:=rfl
 have hpl:(mE n E).length≤3000:=by rw [FQ,length_append,List.length_replicate];omega
 have hpf:gy (mE n E)=true:=Fq _ _ hn.gy (Rj _)
 have hpt:0<(Lib.trimRightB (mE n E) 48).length:=by rw [FQ,LJ];exact hn.last hs
 have hul:=Yc (mE n E)
 have hdl:=LK (mE n E)
 have fin:∀ X:List UInt8,dV n above=.bP [aA (dM n.neg X E).1,.bool (decide ((dM n.neg X E).2=0))]→(¬ (dM n.neg X E).2=0→dV n above=.bP [aA ⟨0,0,[],[],false,0⟩,.bool false])∧((dM n.neg X E).2=0→dV n above=.bP [aA (dM n.neg X E).1,.bool true]):=fun X h=>
  ⟨fun g=>by rw [h,Ye g,decide_eq_false g];rfl,fun g=>by rw [h,decide_eq_true g]⟩
 by_cases hg:n.neg=above
 · have hg':(n.neg=above)=True:=eq_true hg
   have hr:dV n above=.bP [aA (dM n.neg (ou (mE n E)) E).1,.bool (decide ((dM n.neg (ou (mE n E)) E).2=0))]:=by
    simp only [dV,cO,if_neg hs,if_pos hg,Vy]
   obtain ⟨f1,f2⟩:=fin _ hr
   generalize hX:ou (mE n E)=X at *
   by_cases h49:n.s=[49]
   · have Oh:(n.s=[49])=True:=eq_true h49
     have hEe:=hE (n.s.length+n.e-1) (by rw [← Vy];unfold jS;rw [if_pos ⟨hg,h49⟩])
     by_cases hM:(dM n.neg X E).2=0
     · have hM':=eq_true hM
       have hr2:=f2 hM
       (conv=>arg 4;cbv);simp(maxSteps:=400000)only[↓aW,aX,BEq.rfl,reduceIte,reduceCtorEq,Nat.reduceLT,reduceAdd,reduceSub,reduceMul,Nat.reduceBEq,reduceLeDiff,reduceToNat,reduceLE,hQ,↓ng,↓kP,↓vF,hs',hg',Oh,bI,bJ,bT,Aj,Ak,dX,hEe,hX,eu,hM',hr2]
       repeat' (first | omega | exact hpf | exact hpt | exact rfl | refine ⟨?_,?_⟩)
     · have hM':=eq_false hM
       have hr2:=f1 hM
       (conv=>arg 4;cbv);simp(maxSteps:=400000)only[↓aW,aX,BEq.rfl,reduceIte,reduceCtorEq,Nat.reduceLT,reduceAdd,reduceSub,reduceMul,Nat.reduceBEq,reduceLeDiff,reduceToNat,reduceLE,hQ,↓ng,↓kP,↓vF,hs',hg',Oh,bI,bJ,bT,Aj,Ak,dX,hEe,hX,eu,hM',hr2]
       repeat' (first | omega | exact hpf | exact hpt | exact rfl | refine ⟨?_,?_⟩)
   · have Oh:(n.s=[49])=False:=eq_false h49
     have hEe:=hE (n.s.length+n.e) (by rw [← Vy];unfold jS;rw [if_neg fun h=>h49 h.2])
     by_cases hM:(dM n.neg X E).2=0
     · have hM':=eq_true hM
       have hr2:=f2 hM
       (conv=>arg 4;cbv);simp(maxSteps:=400000)only[↓aW,aX,BEq.rfl,reduceIte,reduceCtorEq,Nat.reduceLT,reduceAdd,reduceSub,reduceMul,Nat.reduceBEq,reduceLeDiff,reduceToNat,reduceLE,hQ,↓ng,↓kP,↓vF,hs',hg',Oh,bI,bJ,bT,Aj,Ak,dX,hEe,hX,eu,hM',hr2]
       repeat' (first | omega | exact hpf | exact hpt | exact rfl | refine ⟨?_,?_⟩)
     · have hM':=eq_false hM
       have hr2:=f1 hM
       (conv=>arg 4;cbv);simp(maxSteps:=400000)only[↓aW,aX,BEq.rfl,reduceIte,reduceCtorEq,Nat.reduceLT,reduceAdd,reduceSub,reduceMul,Nat.reduceBEq,reduceLeDiff,reduceToNat,reduceLE,hQ,↓ng,↓kP,↓vF,hs',hg',Oh,bI,bJ,bT,Aj,Ak,dX,hEe,hX,eu,hM',hr2]
       repeat' (first | omega | exact hpf | exact hpt | exact rfl | refine ⟨?_,?_⟩)
 · have hg':(n.neg=above)=False:=eq_false hg
   have hr:dV n above=.bP [aA (dM n.neg (rP (mE n E)) E).1,.bool (decide ((dM n.neg (rP (mE n E)) E).2=0))]:=by
    rw [UG]
    simp only [dV,cO,if_neg hs,if_neg hg,Vy]
   obtain ⟨f1,f2⟩:=fin _ hr
   have hEe:=hE (n.s.length+n.e) (by rw [← Vy];unfold jS;rw [if_neg fun h=>hg h.1])
   generalize hX:rP (mE n E)=X at *
   by_cases hM:(dM n.neg X E).2=0
   · have hM':=eq_true hM
     have hr2:=f2 hM
     (conv=>arg 4;cbv);simp(maxSteps:=400000)only[↓aW,aX,BEq.rfl,reduceIte,reduceCtorEq,Nat.reduceLT,reduceAdd,reduceSub,reduceMul,Nat.reduceBEq,reduceLeDiff,reduceToNat,reduceLE,hQ,↓ng,↓kP,↓CW,hs',hg',bI,bJ,bT,Aj,Ak,dX,hEe,hX,eu,hM',hr2]
     repeat' (first | omega | exact hpf | exact hpt | exact rfl | refine ⟨?_,?_⟩)
   · have hM':=eq_false hM
     have hr2:=f1 hM
     (conv=>arg 4;cbv);simp(maxSteps:=400000)only[↓aW,aX,BEq.rfl,reduceIte,reduceCtorEq,Nat.reduceLT,reduceAdd,reduceSub,reduceMul,Nat.reduceBEq,reduceLeDiff,reduceToNat,reduceLE,hQ,↓ng,↓kP,↓CW,hs',hg',bI,bJ,bT,Aj,Ak,dX,hEe,hX,eu,hM',hr2]
     repeat' (first | omega | exact hpf | exact hpt | exact rfl | refine ⟨?_,?_⟩)
def lX:dJ:=fun args objs K=>match args with
 | [a0,.bool above]=>fU aA a0 (HK.mk:HK fun n=>(Og n)∧K (dV n above) objs 0)
 | _=>False
theorem Kt:aD Tryz.prog 87 (lX):=by
 intro args objs K h
 unfold lX at h
 split at h
 · rename_i a0 above
   obtain ⟨n,rfl,h1,hk⟩:=h
   exact ⟨_,_,_,.pure _ rfl (Jh n above h1),hk⟩
 · exact h.elim
theorem V3 (objs:List Obj) (K:KT):(∀ k,bK D 42 [(0,.int .i64 k)] objs K=K (aA ⟨k,0,[],[],false,0⟩) objs 0)∧(∀ k s,bK D 42 [(0,.int .i64 k),(3,.str s)] objs K=K (aA ⟨k,0,[],s,false,0⟩) objs 0):=by
 have z:aM (D 42)=aA ⟨0,0,[],[],false,0⟩:=by kernel_rfl
 have a:(D 42).agg=true:=by kernel_rfl
 simp only [bY] at z a
 refine ⟨fun k=>?_,fun k s=>?_⟩
 all_goals
  simp [bK,nN,a,z,bY,oH,aA,PV.isAgg,uK,PV.cells,PV.storable,PV.nD,PV.pure]
def FU:List Nd:=[⟨0,0,[],[],false,0⟩,⟨1,0,[],[],false,0⟩,⟨2,0,[],[],false,0⟩,⟨3,0,[],[],false,0⟩]
theorem UN (v:Vl) (ver:Nat) (t:TypeId) (rest:List Obj):fC 1 0 (⟨t,6,v.map aA,true,ver⟩::rest) (.bA 0 ver)=aB v:=El v ver t rest
theorem xb {n i:Nat}(h:n≤1000000) (hi:i≤1000000):((n+1)*64≤140737488355328∧n≤9223372036854775806)∧((n+1+1)*64≤140737488355328∧n≤9223372036854775805)∧
  ((n+1+1+1)*64≤140737488355328∧n≤9223372036854775804)∧(-9223372036854775808≤(i:Int)+1∧(i:Int)+1≤9223372036854775807):=by omega
theorem Oq (l:List lQ) (hl:l.length≤100000) (hn:∀ a ∈ l,a.c.kind=3→Og a.c) (hs:∀ a ∈ l,a.c.s.length≤1000000000):ai Tryz.prog 60 [bW l] [] (aB (gK l)) []:=by
 refine tX.a_ (T:=aP Tryz.prog [(87,lX)]) 1 hD (aj (af Kt ah)) aU (by decide) fun Q hQ=>?_
 (conv=>arg 4;cbv);simp(maxSteps:=400000)only[↓aW,aX,BEq.rfl,reduceIte,reduceCtorEq,Nat.reduceLT,reduceAdd,reduceSub,reduceMul,Nat.reduceBEq,reduceLeDiff,reduceToNat,reduceLE,hQ,V3,Aj,Ak]
 refine aF (fun m S=>∃ i ver:Nat,i+m=l.length∧S=⟨dz 98 [(0,bW l),(3,.bA 0 ver),(4,.int .i64 i)],[⟨42,6,(FU++jv (l.take i)).map aA,true,ver⟩]⟩) l.length ⟨0,1,by omega,?_⟩ ?_ (hz:=Nat.zero_le _)
 · simp only [bG,keepR,reduceAdd,kS,Nat.reduceBEq,map_nil]
   rfl
 rintro m S ⟨i,ver,him,rfl⟩
 have zi:(0≤(i:Int))=True:=eq_true (by omega)
 have hcl:=t_ (l.take i)
 rw [List.length_take] at hcl
 rcases lt_or_ge i l.length with h | h
 · have hlt:((i:Int)<(l.length:Int))=True:=eq_true (by omega)
   have hgi:=List.getElem?_eq_getElem h
   have hni:=hn _ (getElem_mem h)
   generalize l[i]=a at hgi hni
   have htk:=Jc hgi
   have hA:∀ (A B:List Nd),A.map aA++B.map aA=(A++B).map aA:=fun A B=>by rw [List.map_append]
   by_cases hk:a.c.kind=3
   rotate_left 1
   · have hk':=eq_false hk
     have e1:CX a=[]:=if_neg hk
     rw [e1,append_nil] at htk
     simp(maxSteps:=400000)only[↓aW,aX,BEq.rfl,reduceIte,reduceCtorEq,Nat.reduceLT,reduceAdd,reduceSub,reduceMul,Nat.reduceBEq,reduceLeDiff,reduceToNat,reduceLE,hQ,hlt,zi,hgi,hk',Un,take_succ_cons,take_zero,kF]
     exact ⟨⟨by omega,by omega⟩,m-1,by omega,i+1,ver,by omega,by rw [htk,Int.natCast_add,Int.natCast_one]⟩
   have hk':=eq_true hk
   have hnr:=hni hk
   have e1:=Ew hk
   generalize hX:FU++jv (l.take i)=X at *
   have hXl:X.length≤1000000:=by rw [← hX,length_append];have:FU.length=4:=rfl;omega
   have hX':FU++jv (l.take (i+1))=X++CX a:=by rw [htk,← append_assoc,hX]
   have s1:∀ x:Nd,X.map aA++[aA x]=(X++[x]).map aA:=fun x=>by simp
   have fin:∀ (v:Nat) (Y:List Nd),FU++jv (l.take (i+1))=Y→∃ m',m'<m∧∃ Gi acE:Nat,Gi+m'=l.length∧(⟨dz 98 [(0,bW l),(3,.bA 0 v),(4,.int .i64 ((i:Int)+1))],[⟨42,6,Y.map aA,true,v⟩]⟩:St)=⟨dz 98 [(0,bW l),(3,.bA 0 acE),(4,.int .i64 Gi)],[⟨42,6,(FU++jv (l.take Gi)).map aA,true,acE⟩]⟩:=fun v Y hy=>
    ⟨m-1,by omega,i+1,v,by omega,by rw [hy,Int.natCast_add,Int.natCast_one]⟩
   rw [e1] at hX'
   obtain ⟨x1,x2,x3,iw⟩:=xb hXl (Nat.le_trans (Nat.le_of_lt h) (Nat.le_trans hl (by decide:100000≤1000000)))
   cases hb1:(cO a.c true).2 with
   | false=>
    cases hb2:(cO a.c false).2 with
    | false=>
     have hX2:=hX'
     simp only [Gs,hb1,hb2,Bool.false_eq_true,if_true,if_false,append_nil] at hX2
     simp(maxSteps:=400000)only[↓aW,aX,BEq.rfl,reduceIte,reduceCtorEq,Nat.reduceLT,reduceAdd,reduceSub,reduceMul,Nat.reduceBEq,reduceLeDiff,reduceToNat,reduceLE,hQ,hlt,zi,hgi,hk',↓lX,dV,dX,hb1,hb2,bI,bJ,bT,Aj,Ak,vT,Un,take_succ_cons,take_zero,kF,length_append,length_cons,length_nil]
     exact ⟨x1.1,x1.2,hnr,hnr,iw,fin _ _ (by rw [hX2])⟩
    | true=>
     have hX2:=hX'
     simp only [Gs,hb1,hb2,Bool.false_eq_true,if_true,if_false,append_nil] at hX2
     simp(maxSteps:=400000)only[↓aW,aX,BEq.rfl,reduceIte,reduceCtorEq,Nat.reduceLT,reduceAdd,reduceSub,reduceMul,Nat.reduceBEq,reduceLeDiff,reduceToNat,reduceLE,hQ,hlt,zi,hgi,hk',↓lX,dV,dX,hb1,hb2,bI,bJ,bT,Aj,Ak,vT,Un,take_succ_cons,take_zero,kF,length_append,length_cons,length_nil]
     exact ⟨x1.1,x1.2,hnr,hnr,x2.1,x2.2,iw,fin _ _ (by rw [hX2];simp only [append_assoc])⟩
   | true=>
    cases hb2:(cO a.c false).2 with
    | false=>
     have hX2:=hX'
     simp only [Gs,hb1,hb2,Bool.false_eq_true,if_true,if_false,append_nil] at hX2
     simp(maxSteps:=400000)only[↓aW,aX,BEq.rfl,reduceIte,reduceCtorEq,Nat.reduceLT,reduceAdd,reduceSub,reduceMul,Nat.reduceBEq,reduceLeDiff,reduceToNat,reduceLE,hQ,hlt,zi,hgi,hk',↓lX,dV,dX,hb1,hb2,bI,bJ,bT,Aj,Ak,vT,Un,take_succ_cons,take_zero,kF,length_append,length_cons,length_nil]
     exact ⟨x1.1,x1.2,hnr,x2.1,x2.2,hnr,iw,fin _ _ (by rw [hX2];simp only [append_assoc])⟩
    | true=>
     have hX2:=hX'
     simp only [Gs,hb1,hb2,Bool.false_eq_true,if_true,if_false,append_nil] at hX2
     simp(maxSteps:=400000)only[↓aW,aX,BEq.rfl,reduceIte,reduceCtorEq,Nat.reduceLT,reduceAdd,reduceSub,reduceMul,Nat.reduceBEq,reduceLeDiff,reduceToNat,reduceLE,hQ,hlt,zi,hgi,hk',↓lX,dV,dX,hb1,hb2,bI,bJ,bT,Aj,Ak,vT,Un,take_succ_cons,take_zero,kF,length_append,length_cons,length_nil]
     exact ⟨x1.1,x1.2,hnr,x2.1,x2.2,hnr,x3.1,x3.2,iw,fin _ _ (by rw [hX2];simp only [append_assoc])⟩
 have hi:i=l.length:=by omega
 subst hi
 have hlt:((l.length:Int)<(l.length:Int))=False:=eq_false (by omega)
 rw [List.take_of_length_le (Nat.le_refl _)]
 rw [List.take_of_length_le (Nat.le_refl _)] at hcl
 simp(maxSteps:=400000)only[↓aW,aX,BEq.rfl,reduceIte,reduceCtorEq,Nat.reduceLT,reduceAdd,reduceSub,reduceMul,Nat.reduceBEq,reduceLeDiff,reduceToNat,reduceLE,hQ,hlt,V3,Aj,Ak]
 have hc0:FU.length=4:=rfl
 have hY:(FU++jv l).map aA++[aA ⟨4,0,[],[],false,0⟩]=(FU++jv l++[(⟨4,0,[],[],false,0⟩:Nd)]).map aA:=by simp
 rw [hY]
 refine ⟨by omega,by omega,?_⟩
 generalize hX:FU++jv l++[(⟨4,0,[],[],false,0⟩:Nd)]=X
 have hXl:X.length≤300005:=by rw [← hX];simp [FU];omega
 refine aF (fun m S=>∃ i ver:Nat,i+m=l.length∧S=⟨dz 98 [(0,bW l),(3,.bA 0 ver),(9,.int .i64 i)],[⟨42,6,(X++kR (l.take i)).map aA,true,ver⟩]⟩) l.length ⟨0,ver+1,by omega,?_⟩ ?_
 · simp only [bG,keepR,reduceAdd,kS,Nat.reduceBEq,map_nil]
   simp [kR]
 rintro m' S ⟨i,Kc,him',rfl⟩
 have zi:(0≤(i:Int))=True:=eq_true (by omega)
 have hsl:=yF (l.take i)
 rw [List.length_take] at hsl
 rcases lt_or_ge i l.length with h' | h'
 · have hlt:((i:Int)<(l.length:Int))=True:=eq_true (by omega)
   have hgi:=List.getElem?_eq_getElem h'
   have hsi:=hs _ (getElem_mem h')
   generalize l[i]=a at hgi hsi
   have htk:=Jd hgi
   by_cases hk:a.c.kind=4
   · have hk':=eq_true hk
     have e1:CY a=[a.c,⟨4,0,[],a.c.s++[0],false,0⟩]:=if_pos hk
     simp(maxSteps:=400000)only[↓aW,aX,BEq.rfl,reduceIte,reduceCtorEq,Nat.reduceLT,reduceAdd,reduceSub,reduceMul,Nat.reduceBEq,reduceLeDiff,reduceToNat,reduceLE,hQ,hlt,zi,hgi,hk',V3,Aj,Ak]
     have hrow:∀ y,y ∈ [aA a.c,aA ⟨4,0,[],a.c.s++[0],false,0⟩]→y.cells.length=6∧y.cells.all PV.storable=true:=fun y hy=>by
      simp only [List.mem_cons,List.not_mem_nil,or_false] at hy
      rcases hy with rfl | rfl <;> exact ⟨rfl,rfl⟩
     have hXs:X.length+(kR (l.take i)).length≤600000:=by omega
     exact ⟨by omega,hrow,by omega,by omega,rfl,⟨by omega,by omega⟩,m'-1,by omega,i+1,Kc+1,by omega,by
      rw [htk,e1,← append_assoc,List.map_append (l₁:=X++kR _),Int.natCast_add,Int.natCast_one];rfl⟩
   · have hk':=eq_false hk
     have e1:CY a=[]:=if_neg hk
     rw [e1,append_nil] at htk
     simp(maxSteps:=400000)only[↓aW,aX,BEq.rfl,reduceIte,reduceCtorEq,Nat.reduceLT,reduceAdd,reduceSub,reduceMul,Nat.reduceBEq,reduceLeDiff,reduceToNat,reduceLE,hQ,hlt,zi,hgi,hk',V3,Aj,Ak]
     repeat' (first | omega | exact ⟨m'-1,by omega,i+1,Kc,by omega,by rw [htk];rfl⟩ | refine ⟨?_,?_⟩)
 · have hlt:((i:Int)<(l.length:Int))=False:=eq_false (by omega)
   have hr:gK l=X++kR (l.take i):=by
    rw [List.take_of_length_le h',← hX];simp [gK,FU]
   simp(maxSteps:=400000)only[↓aW,aX,BEq.rfl,reduceIte,reduceCtorEq,Nat.reduceLT,reduceAdd,reduceSub,reduceMul,Nat.reduceBEq,reduceLeDiff,reduceToNat,reduceLE,hQ,hlt,UN,hr]
def Da:dJ:=fun args objs K=>match args with
 | [a0]=>fU bW a0 (HK.mk:HK fun l=>(l.length≤100000)∧(∀ a ∈ l,a.c.kind=3→Og a.c)∧(∀ a ∈ l,a.c.s.length≤1000000000)∧K (aB (gK l)) objs 0)
 | _=>False
theorem Rw:aD Tryz.prog 60 (Da):=by
 intro args objs K h
 unfold Da at h
 split at h
 · rename_i a0
   obtain ⟨l,rfl,h1,h2,h3,hk⟩:=h
   exact ⟨_,_,_,.pure _ rfl (Oq l h1 h2 h3),hk⟩
 · exact h.elim
def qJ:dJ:=fun args objs K=>match args with
 | [.int .i64 mask,a1,a2]=>fU bW a1 (HK.mk:HK fun l=>fU aA a2 (HK.mk:HK fun n=>(0≤mask∧mask≤31)∧(l.length≤1000000)∧(∀ a ∈ l,fO a.c)∧(su n)∧(n.s.length≤1000000)∧K (.bool (bO mask l n)) objs 0))
 | _=>False
theorem Fs:aD Tryz.prog 37 (qJ):=by
 intro args objs K h
 unfold qJ at h
 split at h
 · rename_i mask a1 a2
   obtain ⟨l,rfl,n,rfl,h1,h2,h3,h4,h5,hk⟩:=h
   exact ⟨_,_,_,.pure _ rfl (NW mask l n ⟨h1.1,by omega⟩ h2 h3 h4 h5),hk⟩
 · exact h.elim
theorem Ku (mask:Int) (l:List lQ) (hm:0≤mask∧mask≤31) (hl:l.length≤100000) (hc:∀ a ∈ l,fO a.c) (hs:∀ a ∈ l,a.c.s.length≤500000):ai Tryz.prog 32 [.int .i64 mask,bW l] [] (lW mask l) []:=by
 refine AJ.Jb (T:=aP Tryz.prog [(60,Da),(37,qJ)]) 0 hD (aj (af Rw (af Fs ah))) aU (by decide) (by decide) fun Q hQ=>?_
 have hcs:=Jg hc hs
 have hnr:∀ a ∈ l,a.c.kind=3→Og a.c:=fun a ha hk=>(hc a ha).num hk
 have hsb:∀ a ∈ l,a.c.s.length≤1000000000:=fun a ha=>by have:=hs a ha;omega
 have hcl:(gK l).length≤1000000:=by
  have h1:=t_ l
  have h2:=yF l
  simp only [gK,length_append,length_cons,length_nil];omega
 (conv=>arg 4;cbv);simp(maxSteps:=400000)only[↓aW,aX,BEq.rfl,reduceIte,reduceCtorEq,Nat.reduceLT,reduceAdd,reduceSub,reduceMul,Nat.reduceBEq,reduceLeDiff,reduceToNat,reduceLE,hQ,↓Da,bI,bJ]
 refine ⟨hl,hnr,hsb,?_⟩
 refine aF (fun m S=>∃ i:Nat,i+m=(gK l).length∧(∀ (j:Nat) d,j<i→(gK l)[j]?=some d→bO mask l d=false)∧S=⟨dz 28 [(0,.int .i64 mask),(1,bW l),(4,.bR 0 1 0 0),(6,aB (gK l)),(7,.int .i64 i)],[⟨42,6,[aA ⟨0,0,[],[],false,0⟩],true,1⟩]⟩) (gK l).length ⟨0,by omega,fun j d h=>absurd h (Nat.not_lt_zero j),?_⟩ ?_
 · simp only [bG,keepR,reduceAdd,kS,Nat.reduceBEq,map_nil]
   rfl
 rintro m S ⟨i,him,hb,rfl⟩
 have zi:(0≤(i:Int))=True:=eq_true (by omega)
 rcases lt_or_ge i (gK l).length with h | h
 · have hlt:((i:Int)<((gK l).length:Int))=True:=eq_true (by omega)
   have hgi:=List.getElem?_eq_getElem h
   have hsi:=hcs _ (getElem_mem h)
   generalize (gK l)[i]=c at hgi hsi
   cases hmem:bO mask l c with
   | true=>
    have hr:lW mask l=.bP [aA c,.bool true]:=by simp [lW,LP hgi hmem hb]
    simp(maxSteps:=400000)only[↓aW,aX,BEq.rfl,reduceIte,reduceCtorEq,Nat.reduceLT,reduceAdd,reduceSub,reduceMul,Nat.reduceBEq,reduceLeDiff,reduceToNat,reduceLE,hQ,hlt,zi,hgi,↓qJ,hmem,bI,bJ,bT,Aj,Ak,hr]
    repeat' (first | omega | exact hc | exact hsi.1 | exact rfl | refine ⟨?_,?_⟩)
   | false=>
    have hb':∀ (j:Nat) d,j<i+1→(gK l)[j]?=some d→bO mask l d=false:=fun j d hj hd=>by
     rcases lt_or_ge j i with g | g
     · exact hb j d g hd
     · have:j=i:=by omega
       subst this
       rw [hgi] at hd;cases hd;exact hmem
    simp(maxSteps:=400000)only[↓aW,aX,BEq.rfl,reduceIte,reduceCtorEq,Nat.reduceLT,reduceAdd,reduceSub,reduceMul,Nat.reduceBEq,reduceLeDiff,reduceToNat,reduceLE,hQ,hlt,zi,hgi,↓qJ,hmem,bI,bJ,bT,Aj,Ak]
    repeat' (first | omega | exact hc | exact hsi.1 | exact ⟨m-1,by omega,i+1,by omega,hb',rfl⟩ | refine ⟨?_,?_⟩)
 · have hlt:((i:Int)<((gK l).length:Int))=False:=eq_false (by omega)
   have hr:lW mask l=.bP [aA ⟨0,0,[],[],false,0⟩,.bool false]:=by
    have:=Jf (mask:=mask) (l:=l) fun j d hd=>hb j d (by have:=(List.getElem?_eq_some_iff.1 hd).1;omega) hd
    simp [lW,this,aV]
   simp(maxSteps:=400000)only[↓aW,aX,BEq.rfl,reduceIte,reduceCtorEq,Nat.reduceLT,reduceAdd,reduceSub,reduceMul,Nat.reduceBEq,reduceLeDiff,reduceToNat,reduceLE,hQ,hlt,bI,bJ,Aj,Ak,hr]
   repeat' (first | omega | exact rfl | refine ⟨?_,?_⟩)
def ug:dJ:=fun args objs K=>match args with
 | [.int .i64 mask,a1]=>fU bW a1 (HK.mk:HK fun l=>(0≤mask∧mask≤31)∧(l.length≤100000)∧(∀ a ∈ l,fO a.c)∧(∀ a ∈ l,a.c.s.length≤500000)∧K (lW mask l) objs 0)
 | _=>False
theorem Ot:aD Tryz.prog 32 (ug):=by
 intro args objs K h
 unfold ug at h
 split at h
 · rename_i mask a1
   obtain ⟨l,rfl,h1,h2,h3,h4,hk⟩:=h
   exact ⟨_,_,_,.pure _ rfl (Ku mask l h1 h2 h3 h4),hk⟩
 · exact h.elim
end Lp
namespace Lp
open Go Go.Proofs
open Nat (reduceAdd reduceLeDiff reduceMul reduceSub)
open Int (reduceLE reduceToNat toNat_natCast)
theorem LQ {a:lQ}(h:kW a=true) (hs:a.c.s.length≤500000):fO a.c:=by
 simp only [kW,Bool.and_eq_true] at h
 exact ⟨h.2,by omega⟩
theorem Rx (t:aY) (hs:vz t) (hl5:t.length≤100000) (hc:∀ n ∈ t,n.c.s.length≤500000):ai Tryz.prog 26 [aG t] [] (.bool (qE t)) []:=by
 have hl:=hs.len
 refine CS.a_ (T:=aP Tryz.prog [(48,qI),(49,jJ),(32,ug)]) 0 hD (aj (af Ko (af vR (af Ot ah)))) aU (by decide) fun Q hQ=>?_
 cases hr:gu t with
 | false=>
  have hg:qE t=false:=by simp [qE,hr]
  (conv=>arg 4;cbv);simp(maxSteps:=400000)only[↓au,av,BEq.rfl,reduceIte,reduceCtorEq,Nat.reduceLT,reduceAdd,reduceSub,reduceMul,Nat.reduceBEq,reduceLeDiff,reduceToNat,reduceLE,hQ,↓qI,hr,hg]
  exact hs
 | true=>
  have hrt:=LF hr
  have ho:=hrt.one
  have hg:qE t=Y.fM rT t:=by simp [qE,hr]
  (conv=>arg 4;cbv);simp(maxSteps:=400000)only[↓au,av,BEq.rfl,reduceIte,reduceCtorEq,Nat.reduceLT,reduceAdd,reduceSub,reduceMul,Nat.reduceBEq,reduceLeDiff,reduceToNat,reduceLE,hQ,↓qI,hr]
  refine ⟨hs,?_⟩
  refine aF (fun m S=>∃ i:Nat,i+m=t.length∧Y.fM rT (t.drop i)=qE t∧S=⟨dz 35 [(0,aG t),(3,.int .i64 i)],[]⟩) t.length (hz:=Nat.zero_le _) ⟨0,by omega,by rw [hg];rfl,?_⟩ ?_
  · simp only [bG,keepR,reduceAdd,kS,Nat.reduceBEq,List.map_nil]
    rfl
  rintro m S ⟨i,him,hgd,rfl⟩
  rcases Nat.lt_or_ge i t.length with h | h
  · have hgi:=List.getElem?_eq_getElem h
    have hcx:=hc _ (List.getElem_mem h)
    generalize t[i]=n at hgi hcx
    have hd:=Ul hgi
    rw [hgd] at hd
    have zi:(0≤(i:Int))=True:=eq_true (by omega)
    have hlt:((i:Int)<(t.length:Int))=True:=eq_true (by omega)
    have next:qE t=Y.fM rT (t.drop (i+1))→∃ m',m'<m∧∃ Gi:Nat,Gi+m'=t.length∧Y.fM rT (t.drop Gi)=qE t∧(⟨dz 35 [(0,aG t),(3,.int .i64 ((i:Int)+1))],[]⟩:St)=⟨dz 35 [(0,aG t),(3,.int .i64 Gi)],[]⟩:=fun e=>
     ⟨m-1,by omega,i+1,by omega,e.symm,rfl⟩
    by_cases hk:n.kind=1
    rotate_left 1
    · have hk':=eq_false hk
      have hla:yE t i=true:=by
       obtain ⟨ps,c,_,_,h3,_⟩:=Y.vw ho hgi
       have hd0:=List.drop_eq_getElem_cons h
       rw [List.getElem?_eq_getElem h] at hgi
       cases hgi
       simp only [yE,hd0,h3,rT]
       simp [hk]
      rw [hla,Bool.true_and] at hd
      have hst:=next hd
      simp(maxSteps:=400000)only[↓au,av,BEq.rfl,reduceIte,reduceCtorEq,Nat.reduceLT,reduceAdd,reduceSub,reduceMul,Nat.reduceBEq,reduceLeDiff,reduceToNat,reduceLE,hQ,hlt,zi,hgi,hk']
      repeat' (first | omega | exact hst | refine ⟨?_,?_⟩)
    · have hk':=eq_true hk
      obtain ⟨ps,p1,p2,p3,p4,p5,p6,p7⟩:=VW hrt hgi hk
      have hat:lN t i=ps.flatten.map iH:=by simp only [lN,hgi,hk,if_true,p2]
      have hal:(lN t i).length≤100000:=by rw [hat,List.length_map,p2,List.length_take,List.length_drop];omega
      have hmem:∀ x ∈ ps.flatten,x ∈ t:=fun x hx=>by rw [p2] at hx;exact List.mem_of_mem_drop (List.mem_of_mem_take hx)
      have hsm:∀ a ∈ lN t i,a.c.s.length≤500000:=fun a ha=>by
       rw [hat] at ha
       obtain ⟨x,hx,rfl⟩:=List.mem_map.1 ha
       exact hc x (hmem x hx)
      have hcm:∀ a ∈ lN t i,fO a.c:=fun a ha=>by
       have hsa:=hsm a ha
       rw [hat] at ha
       obtain ⟨x,hx,rfl⟩:=List.mem_map.1 ha
       exact LQ (p7 x hx) hsa
      have hla:yE t i=(jd n.n (lN t i)).2:=by
       have hd0:=List.drop_eq_getElem_cons h
       have hx:=hgi
       rw [List.getElem?_eq_getElem h] at hx
       cases hx
       simp only [yE,hd0,p1,rT,hat]
       simp [hk]
      rw [hla] at hd
      cases hls:(jd n.n (lN t i)).2 with
      | false=>
       rw [hls] at hd
       have hr2:qE t=false:=by rw [hd];rfl
       simp(maxSteps:=400000)only[↓au,av,BEq.rfl,reduceIte,reduceCtorEq,Nat.reduceLT,reduceAdd,reduceSub,reduceMul,Nat.reduceBEq,reduceLeDiff,reduceToNat,reduceLE,hQ,hlt,zi,hgi,hk',↓jJ,toNat_natCast,↓ug,lW,dX,bI,bJ,Aj,Ak,hls,hr2]
       repeat' (first | omega | exact hcm | exact hsm | exact ho | exact rfl | refine ⟨?_,?_⟩)
      | true=>
       rw [hls,Bool.true_and] at hd
       have hst:=next hd
       simp(maxSteps:=400000)only[↓au,av,BEq.rfl,reduceIte,reduceCtorEq,Nat.reduceLT,reduceAdd,reduceSub,reduceMul,Nat.reduceBEq,reduceLeDiff,reduceToNat,reduceLE,hQ,hlt,zi,hgi,hk',↓jJ,toNat_natCast,↓ug,lW,dX,bI,bJ,Aj,Ak,hls]
       repeat' (first | omega | exact hcm | exact hsm | exact ho | exact hst | exact rfl | refine ⟨?_,?_⟩)
  · have hlt:((i:Int)<(t.length:Int))=False:=eq_false (by omega)
    have hr2:qE t=true:=by rw [← hgd,List.drop_eq_nil_of_le h];rfl
    simp(maxSteps:=400000)only[↓au,av,BEq.rfl,reduceIte,reduceCtorEq,Nat.reduceLT,reduceAdd,reduceSub,reduceMul,Nat.reduceBEq,reduceLeDiff,reduceToNat,reduceLE,hQ,hlt,hr2]
def yG:dJ:=fun args objs K=>match args with
 | [a0]=>fU aG a0 (HK.mk:HK fun t=>(vz t)∧(t.length≤100000)∧(∀ n ∈ t,n.c.s.length≤500000)∧K (.bool (qE t)) objs 0)
 | _=>False
theorem Ou:aD Tryz.prog 26 (yG):=by
 intro args objs K h
 unfold yG at h
 split at h
 · rename_i a0
   obtain ⟨t,rfl,h1,h2,h3,hk⟩:=h
   exact ⟨_,_,_,.pure _ rfl (Rx t h1 h2 h3),hk⟩
 · exact h.elim
def FV (t:aY) (k:Nat):Bool:=decide (t.length≤k) && t.all jI && qE t
theorem UO (t:aY) (k:Nat) (hk:k≤100000) (hl:t.length≤4611686018427387904) (htx:∀ n ∈ t,n.s.length≤4611686018427387904∧n.name.length≤4611686018427387904∧n.c.s.length≤4611686018427387904) (hcn:∀ n ∈ t,n.c.name.length≤4611686018427387904) :
  ai Tryz.prog 8 [aG t,.int .i64 k] [] (.bool (FV t k)) []:=by
 refine Ev.a_ (T:=aP Tryz.prog [(25,qG),(26,yG)]) 0 hD (aj (af Km (af Ou ah))) aU (by decide) fun Q hQ=>?_
 cases hsh:(decide (t.length≤k) && t.all jI) with
 | false=>
  have hr:FV t k=false:=by simp only [FV,hsh,Bool.false_and]
  (conv=>arg 4;cbv);simp(maxSteps:=400000)only[↓au,av,BEq.rfl,reduceIte,reduceCtorEq,Nat.reduceLT,reduceAdd,reduceSub,reduceMul,Nat.reduceBEq,reduceLeDiff,reduceToNat,reduceLE,hQ,↓qG,toNat_natCast,hsh,hr]
  repeat' (first | omega | exact htx | refine ⟨?_,?_⟩)
 | true=>
  have hr:FV t k=qE t:=by simp only [FV,hsh,Bool.true_and]
  simp only [Bool.and_eq_true,decide_eq_true_eq,List.all_eq_true] at hsh
  have hsh':(decide (t.length≤k) && t.all jI)=true:=by simp only [Bool.and_eq_true,decide_eq_true_eq,List.all_eq_true];exact hsh
  have hs1:∀ n ∈ t,n.s.length≤100∧n.name.length≤100∧n.c.s.length≤100:=fun n hn=>by
   have:=hsh.2 n hn
   simp only [jI,Bool.and_eq_true,decide_eq_true_eq] at this
   exact ⟨this.1.1,this.1.2,this.2⟩
  have hsm:vz t:=⟨by omega,fun n hn=>by have:=hs1 n hn;exact ⟨by omega,by omega,⟨by omega,hcn n hn⟩⟩⟩
  have hcs:∀ n ∈ t,n.c.s.length≤500000:=fun n hn=>by have:=hs1 n hn;omega
  (conv=>arg 4;cbv);simp(maxSteps:=400000)only[↓au,av,BEq.rfl,reduceIte,reduceCtorEq,Nat.reduceLT,reduceAdd,reduceSub,reduceMul,Nat.reduceBEq,reduceLeDiff,reduceToNat,reduceLE,hQ,↓qG,toNat_natCast,hsh',↓yG,hr]
  have hl5:t.length≤100000:=by omega
  repeat' (first | omega | exact htx | exact hsm | exact hcs | refine ⟨?_,?_⟩)
def lJ:dJ:=fun args objs K=>match args with
 | [a0,.int .i64 k]=>fU aG a0 (HK.mk:HK fun t=>(0≤k∧k≤100000)∧(t.length≤4611686018427387904)∧(∀ n ∈ t,n.s.length≤4611686018427387904∧n.name.length≤4611686018427387904∧n.c.s.length≤4611686018427387904)∧(∀ n ∈ t,n.c.name.length≤4611686018427387904)∧K (.bool (FV t k.toNat)) objs 0)
 | _=>False
theorem Fu:aD Tryz.prog 8 (lJ):=by
 intro args objs K h
 unfold lJ at h
 split at h
 · rename_i a0 k
   obtain ⟨t,rfl,h1,h2,h3,h4,hk⟩:=h
   exact ⟨_,_,_,.pure _ rfl ((by have:=UO t k.toNat (by omega) h2 h3 h4;rwa [Int.toNat_of_nonneg h1.1] at this)),hk⟩
 · exact h.elim
end Lp
namespace Lp
open Go Go.Proofs
open List (length_cons length_drop length_nil map_map map_nil)
open Nat (reduceAdd reduceLeDiff reduceMul reduceSub)
open Int (reduceLE reduceToNat)
def FW (l:List aY) (ver:Nat):Obj:=⟨23,1,l.map aG,true,ver⟩
theorem Ey (f:PV→PV) (hf:∀ l,f (aG l)=aG l) (D:List aY):(D.map aG).map (PV.bL f)=D.map aG:=by
 rw [map_map]
 exact List.map_congr_left fun x _=>hf x
theorem Ry (f:PV→PV) (hf:∀ x:fE,(bH x).bL f=bH x) (D:aY):(D.map bH).map (PV.bL f)=D.map bH:=by
 rw [map_map]
 exact List.map_congr_left fun x _=>hf x
theorem abA (o:Obj) (D:aY) (ver:Nat) (t:TypeId) (rest:List Obj):fC 1 1 (o::⟨t,11,D.map bH,true,ver⟩::rest) (.bA 1 ver)=aG D:=by
 simp only [fC,Nat.lt_irrefl,if_false,gF,List.getElem?_cons_succ,List.getElem?_cons_zero,Nat.le_refl,decide_true,Bool.true_and,beq_self_eq_true,if_true,Ry (gF 0 1 _) (fun _=>rfl)]
 rfl
theorem aaq (o:Obj) (x:fE) (q:aY) (ver:Nat) (t:TypeId) (rest:List Obj):fC 1 1 (o::⟨t,11,bH x::q.map bH,true,ver⟩::rest) (.bA 1 ver)=aG (x::q):=abA o (x::q) ver t rest
theorem Rz (d n:Nat) (X:List Obj) (T:TypeId) (D:List aY) (u:Nat):gM d n X ⟨T,1,D.map aG,true,u⟩=⟨T,1,D.map aG,true,u⟩:=by
 simp only [gM,Ey (fC d n X) (fun _=>rfl)]
theorem V4 (D:List aY) (ver:Nat) (t:TypeId) (rest:List Obj):fC 1 0 (⟨t,1,D.map aG,true,ver⟩::rest) (.bA 0 ver)=kT D:=by
 simp only [fC,Nat.not_lt_zero,if_false,gF,List.getElem?_cons_zero,Nat.le_refl,decide_true,Bool.true_and,beq_self_eq_true,if_true,Ey (gF 0 0 _) (fun _=>rfl)]
 rfl
theorem vI (t:aY) (ho:Y.One t):∃ n r ps,t=n::r∧0≤n.many∧Y.parts n.many.toNat r=some ps∧ps.flatten=r∧(∀ p ∈ ps,Y.One p)∧Y.partsOf n r=ps∧n.many=(ps.length:Int)∧ps.length≤r.length:=by
 obtain ⟨n,r,rfl⟩:∃ n r,t=n::r:=by
  cases t with
  | nil=>exact absurd rfl ho.ne
  | cons n r=>exact ⟨n,r,rfl⟩
 obtain ⟨hm,ps,h1,h2,h3⟩:=ho.parts
 have hl:=Y.bB _ _ _ h1
 exact ⟨n,r,ps,rfl,hm,h1,h2,h3,by simp [Y.partsOf,h1],by omega,by have:=Y.fV _ _ _ h1;omega⟩
theorem Kv (t:aY) (ho:Y.One t) (hl:t.length≤1000000):ai Tryz.prog 20 [aG t] [] (kT (aC t)) []:=by
 obtain ⟨n,r,ps,hv,hm,hp,hfl,hps,hpo,hmn,JW⟩:=vI t ho
 have hg0:t[0]?=some n:=by rw [hv];rfl
 have hr:aC t=if n.kind=1 then [] else ps.map Y.gU:=by rw [hv,aC,hpo]
 have hd1:t.drop 1=r:=by rw [hv];rfl
 have hrl:r.length+1=t.length:=by rw [hv];rfl
 have hpl:=Y.bB _ _ _ hp
 refine AL.a_ (T:=aP Tryz.prog [(45,fw)]) 1 hD (aj (af mZ ah)) aU (by decide) fun Q hQ=>?_
 (conv=>arg 4;cbv);simp(maxSteps:=400000)only[↓au,av,BEq.rfl,reduceIte,reduceCtorEq,Nat.reduceLT,reduceAdd,reduceSub,reduceMul,Nat.reduceBEq,reduceLeDiff,reduceToNat,reduceLE,hQ,iN]
 refine aF (fun m S=>∃ (i ver:Nat) (done:List aY) (rest:List aY),m=rest.length∧(done=[]∨n.kind≠1)∧done.length+rest.length=ps.length∧done++rest.map Y.gU=ps.map Y.gU∧Y.parts rest.length (t.drop i)=some rest∧
  S=⟨dz 47 [(0,aG t),(3,.bA 0 ver),(4,.int .i64 i),(5,.int .i64 done.length)],[⟨23,1,done.map aG,true,ver⟩]⟩) ps.length ⟨1,1,[],ps,rfl,.inl rfl,by simp,rfl,by rw [hd1,hpl];exact hp,?_⟩ ?_
 · simp only [bG,keepR,reduceAdd,kS,Nat.reduceBEq,map_nil]
   rfl
 rintro m S ⟨i,ver,done,rest,rfl,hdn,hdl,hdr,hrp,rfl⟩
 cases rest with
 | nil=>
  simp only [length_nil,Nat.add_zero] at hdl
  have hlt:((done.length:Int)<(ps.length:Int))=False:=eq_false (by omega)
  simp only [map_nil,List.append_nil] at hdr
  have hres:aC t=done:=by
   rw [hr]
   split
   · rename_i h1;exact (hdn.resolve_right (fun h=>h h1)).symm
   · exact hdr.symm
  simp(maxSteps:=400000)only[↓au,av,BEq.rfl,reduceIte,reduceCtorEq,Nat.reduceLT,reduceAdd,reduceSub,reduceMul,Nat.reduceBEq,reduceLeDiff,reduceToNat,reduceLE,hQ,hg0,hmn,hlt,V4,hres]
 | cons p qs=>
  obtain ⟨c,qs',h1,h2,h3⟩:=Y.dW (k:=qs.length) hrp
  simp only [List.cons.injEq] at h2
  obtain ⟨hp1,rfl⟩:=h2
  simp only [length_cons] at hdl
  have hlt:((done.length:Int)<(ps.length:Int))=True:=eq_true (by omega)
  by_cases hk:n.kind=1
  · have hk':=eq_true hk
    have hd:=hdn.resolve_right (fun h=>h hk)
    have hres:aC t=done:=by rw [hr,if_pos hk,hd]
    simp(maxSteps:=400000)only[↓au,av,BEq.rfl,reduceIte,reduceCtorEq,Nat.reduceLT,reduceAdd,reduceSub,reduceMul,Nat.reduceBEq,reduceLeDiff,reduceToNat,reduceLE,hQ,hg0,hmn,hlt,hk',V4,hres]
  rw [if_neg hk] at hr
  have hk':=eq_false hk
  have hc:=Y.dR _ _ _ h1
  simp only [length_drop] at hc
  have hnx:qF t i=(i+c:Nat):=xB (Y.mP _ _ _ _ h1 (by omega))
  have zi:(0≤(i:Int))=True:=eq_true (by omega)
  have c1:((i:Int)≤((i+c:Nat):Int))=True:=eq_true (by omega)
  have c2:(((i+c:Nat):Int)≤(t.length:Int))=True:=eq_true (by omega)
  have hpe:List.drop i (List.take (i+c) t)=p:=by
   rw [List.drop_take,hp1,show i+c-i=c by omega]
  obtain ⟨x,q,hxq⟩:∃ x q,p=x::q:=by
   cases hh:p with
   | nil=>rw [hh] at hp1;have:=congrArg List.length hp1;simp at this;omega
   | cons x q=>exact ⟨x,q,rfl⟩
  have aeF:p.length≤t.length:=by rw [hp1,List.length_take,length_drop];omega
  have hsz:∀ y:fE,y ∈ (x::q:aY)→(bH y).cells.length=11∧(bH y).cells.all PV.storable=true:=fun y _=>⟨rfl,rfl⟩
  rw [hxq] at hpe aeF
  simp only [length_cons] at aeF
  simp(maxSteps:=400000)only[↓au,av,BEq.rfl,reduceIte,reduceCtorEq,Nat.reduceLT,reduceAdd,reduceSub,reduceMul,Nat.reduceBEq,reduceLeDiff,reduceToNat,reduceLE,hQ,hg0,hmn,hlt,hk',↓fw,Int.toNat_natCast,hnx,zi,c1,c2,hpe,iN,iT,AU,bT,eF,List.set_cons_zero]
  refine ⟨by omega,hl,fun y hy=>?_,by omega,by omega,by omega,by omega,?_⟩
  · have:y ∈ (x::q:aY).map bH:=hy
    obtain ⟨z,_,rfl⟩:=List.mem_map.1 this
    exact ⟨rfl,rfl⟩
  refine aT _ (Weak.freeze 1 1 (Nat.zero_le _) _) ?_
  simp(maxSteps:=400000)only[↓au,av,BEq.rfl,reduceIte,reduceCtorEq,Nat.reduceLT,reduceAdd,reduceSub,reduceMul,Nat.reduceBEq,reduceLeDiff,reduceToNat,reduceLE,hQ,aaq,Un,Rz,List.take_succ_cons,List.take_zero]
  have afq:Y.gU p={ x with name:=[] }::q:=by rw [hxq];rfl
  refine ⟨by omega,by omega,⟨by omega,by omega⟩,qs.length,by omega,i+c,ver+1,done++[Y.gU p],qs,rfl,.inr hk,by simp only [List.length_append,length_cons,length_nil];omega,by rw [← hdr];simp,by rw [← List.drop_drop];exact h3,?_⟩
  rw [afq]
  simp
def dY:dJ:=fun args objs K=>match args with
 | [a0]=>fU aG a0 (HK.mk:HK fun t=>(Y.One t)∧(t.length≤1000000)∧K (kT (aC t)) objs 0)
 | _=>False
theorem zD:aD Tryz.prog 20 (dY):=by
 intro args objs K h
 unfold dY at h
 split at h
 · rename_i a0
   obtain ⟨t,rfl,h1,h2,hk⟩:=h
   exact ⟨_,_,_,.pure _ rfl (Kv t h1 h2),hk⟩
 · exact h.elim
theorem Ov (t:aY) (ho:Y.One t) (hl:t.length≤1000000):ai Tryz.prog 24 [aG t] [] (dQ (bF t)) []:=by
 obtain ⟨n,r,ps,hv,hm,hp,hfl,hps,hpo,hmn,JW⟩:=vI t ho
 have hg0:t[0]?=some n:=by rw [hv];rfl
 have hr:bF t=if n.kind=2 then ps.map Y.nameOf else []:=by rw [hv,bF,hpo]
 have hd1:t.drop 1=r:=by rw [hv];rfl
 have hrl:r.length+1=t.length:=by rw [hv];rfl
 have hpl:=Y.bB _ _ _ hp
 refine AO.a_ (T:=aP Tryz.prog [(45,fw)]) 1 hD (aj (af mZ ah)) aU (by decide) fun Q hQ=>?_
 (conv=>arg 4;cbv);simp(maxSteps:=400000)only[↓au,av,BEq.rfl,reduceIte,reduceCtorEq,Nat.reduceLT,reduceAdd,reduceSub,reduceMul,Nat.reduceBEq,reduceLeDiff,reduceToNat,reduceLE,hQ]
 refine aF (fun m S=>∃ (i ver:Nat) (done:List (List UInt8)) (rest:List aY),m=rest.length∧(done=[]∨n.kind=2)∧done.length+rest.length=ps.length∧done++rest.map Y.nameOf=ps.map Y.nameOf∧Y.parts rest.length (t.drop i)=some rest∧
  S=⟨dz 34 [(0,aG t),(3,.bA 0 ver),(4,.int .i64 i),(5,.int .i64 done.length)],[⟨9,1,done.map .str,true,ver⟩]⟩) ps.length ⟨1,1,[],ps,rfl,.inl rfl,by simp,rfl,by rw [hd1,hpl];exact hp,?_⟩ ?_
 · simp only [bG,keepR,reduceAdd,kS,Nat.reduceBEq,map_nil]
   rfl
 rintro m S ⟨i,ver,done,rest,rfl,hdn,hdl,hdr,hrp,rfl⟩
 have ef:fC 1 0 [⟨9,1,done.map .str,true,ver⟩] (.bA 0 ver)=dQ done:=by
  have:(done.map PV.str).map (PV.bL (gF 0 0 [⟨9,1,done.map .str,true,ver⟩]))=done.map PV.str:=by
   rw [map_map];exact List.map_congr_left fun x _=>rfl
  simp only [fC,Nat.not_lt_zero,if_false,gF,List.getElem?_cons_zero,Nat.le_refl,decide_true,Bool.true_and,beq_self_eq_true,if_true,this]
  rfl
 cases rest with
 | nil=>
  simp only [length_nil,Nat.add_zero] at hdl
  have hlt:((done.length:Int)<(ps.length:Int))=False:=eq_false (by omega)
  simp only [map_nil,List.append_nil] at hdr
  have hres:bF t=done:=by
   rw [hr]
   split
   · exact hdr.symm
   · rename_i h1;exact (hdn.resolve_right h1).symm
  simp(maxSteps:=400000)only[↓au,av,BEq.rfl,reduceIte,reduceCtorEq,Nat.reduceLT,reduceAdd,reduceSub,reduceMul,Nat.reduceBEq,reduceLeDiff,reduceToNat,reduceLE,hQ,hg0,hmn,hlt,ef,hres]
 | cons p qs=>
  obtain ⟨c,qs',h1,h2,h3⟩:=Y.dW (k:=qs.length) hrp
  simp only [List.cons.injEq] at h2
  obtain ⟨hp1,rfl⟩:=h2
  simp only [length_cons] at hdl
  have hlt:((done.length:Int)<(ps.length:Int))=True:=eq_true (by omega)
  by_cases hk:n.kind=2
  rotate_left 1
  · have hk':=eq_false hk
    have hd:=hdn.resolve_right hk
    have hres:bF t=done:=by rw [hr,if_neg hk,hd]
    simp(maxSteps:=400000)only[↓au,av,BEq.rfl,reduceIte,reduceCtorEq,Nat.reduceLT,reduceAdd,reduceSub,reduceMul,Nat.reduceBEq,reduceLeDiff,reduceToNat,reduceLE,hQ,hg0,hmn,hlt,hk',ef,hres]
  rw [if_pos hk] at hr
  have hc:=Y.dR _ _ _ h1
  simp only [length_drop] at hc
  have hnx:qF t i=(i+c:Nat):=xB (Y.mP _ _ _ _ h1 (by omega))
  have zi:(0≤(i:Int))=True:=eq_true (by omega)
  have hil:i<t.length:=by omega
  have hgi:=List.getElem?_eq_getElem hil
  have hdi:=List.drop_eq_getElem_cons hil
  generalize t[i]=pn at hgi hdi
  have hname:Y.nameOf p=pn.name:=by
   obtain ⟨w,hw⟩:∃ w,c=w+1:=⟨c-1,by omega⟩
   rw [hp1,hdi,hw];rfl
  simp(maxSteps:=400000)only[↓au,av,BEq.rfl,reduceIte,reduceCtorEq,Nat.reduceLT,reduceAdd,reduceSub,reduceMul,Nat.reduceBEq,reduceLeDiff,reduceToNat,reduceLE,hQ,hg0,hmn,hlt,hk,↓fw,Int.toNat_natCast,hnx,zi,hgi]
  refine ⟨by omega,by omega,by omega,hl,⟨by omega,by omega⟩,qs.length,by omega,i+c,ver+1,done++[pn.name],qs,rfl,by simp only [List.length_append,length_cons,length_nil];omega,by rw [← hdr,List.map_cons,hname];simp,by rw [← List.drop_drop];exact h3,by simp⟩
def vJ:dJ:=fun args objs K=>match args with
 | [a0]=>fU aG a0 (HK.mk:HK fun t=>(Y.One t)∧(t.length≤1000000)∧K (dQ (bF t)) objs 0)
 | _=>False
theorem Kw:aD Tryz.prog 24 (vJ):=by
 intro args objs K h
 unfold vJ at h
 split at h
 · rename_i a0
   obtain ⟨t,rfl,h1,h2,hk⟩:=h
   exact ⟨_,_,_,.pure _ rfl (Ov t h1 h2),hk⟩
 · exact h.elim
end Lp
namespace Lp
open Go Go.Proofs
def adr (x:PV) (l:List Vl):Prop:=x=dD l∨(x=.sl 0 [] (some true)∧l=[])
theorem aar (a:List Vl) (P:List Vl→Prop):(∃ l,adr (dD a) l∧P l)=P a:=by
 apply propext
 constructor
 · rintro ⟨l,h | ⟨h,_⟩,hp⟩
   · rw [wW _ _ h];exact hp
   · simp [dD] at h
 · exact fun h=>⟨a,.inl rfl,h⟩
theorem ads (P:List Vl→Prop):(∃ l,adr (.sl 0 [] (some true)) l∧P l)=P []:=by
 apply propext
 constructor
 · rintro ⟨l,h | ⟨_,rfl⟩,hp⟩
   · simp [dD] at h
   · exact hp
 · exact fun h=>⟨[],.inr ⟨rfl,rfl⟩,h⟩
theorem abB {f:FuncId}{r:PV}(h:ai Tryz.prog f [dD []] [] r []):ai Tryz.prog f [.sl 0 [] (some true)] [] r []:=by
 refine h.arg rfl fun i p q hp hq=>?_
 match i with
 | 0=>cases hp;cases hq;exact ji 0 1
 | _+1=>simp at hp
def oN:dJ:=fun args objs K=>match args with
 | [x]=>∃ l,adr x l∧l.length≤1000000∧l.flatten.length≤1000000∧K (aB (j6 l)) objs 0
 | _=>False
theorem Ji:aD Tryz.prog 29 oN:=by
 intro args objs K h
 unfold oN at h
 split at h
 · obtain ⟨l,hx,h1,h2,hk⟩:=h
   rcases hx with rfl | ⟨rfl,rfl⟩
   · exact ⟨_,_,_,.pure _ rfl (Cq l h1 h2),hk⟩
   · exact ⟨_,_,_,.pure _ rfl (abB (Cq [] (Nat.zero_le _) (Nat.zero_le _))),hk⟩
 · exact h.elim
end Lp
namespace Lp
open Go Go.Proofs
open List (length_cons length_map mem_cons_of_mem)
structure nH (t:aY):Prop where
 rt:Dw bC dF t
 len:t.length≤100000
 cs:∀ n ∈ t,n.c.s.length≤500000
 nm:∀ n ∈ t,n.name.length≤4611686018427387904
theorem nH.part {n:fE}{r:aY}(h:nH (n::r)):∀ p ∈ aC (n::r),nH p∧p.length≤r.length:=by
 intro p hp
 have h1:=h.rt.part p hp
 have hl:=h.len
 simp only [length_cons] at hl
 refine ⟨⟨h1.1,by omega,?_,?_⟩,h1.2⟩
 all_goals
  by_cases hk:n.kind=1
  · simp only [aC,hk,if_true] at hp;cases hp
  simp only [aC,hk,if_false] at hp
  obtain ⟨_,_,ps,h3,h4,_⟩:=h.rt.parts
  rw [fo h3] at hp
  obtain ⟨q,hq,rfl⟩:=List.mem_map.1 hp
  have hr:∀ x ∈ q,x ∈ r:=fun x hx=>by rw [← h4];exact List.mem_flatten.2 ⟨q,hq,hx⟩
  intro x hx
  cases q with
  | nil=>cases hx
  | cons y z=>
   rcases List.mem_cons.1 hx with rfl | hx
   · first
      | exact h.cs y (mem_cons_of_mem _ (hr y (List.mem_cons_self ..)))
      | exact Nat.zero_le _
   · first
      | exact h.cs x (mem_cons_of_mem _ (hr x (mem_cons_of_mem _ hx)))
      | exact h.nm x (mem_cons_of_mem _ (hr x (mem_cons_of_mem _ hx)))
theorem nH.atoms {n:fE}{r:aY}(h:nH (n::r)) (hk:n.kind=1):(0≤n.n∧n.n≤31)∧(fH (n::r)).length≤100000∧(∀ a ∈ fH (n::r),fO a.c)∧(∀ a ∈ fH (n::r),a.c.s.length≤500000):=by
 obtain ⟨ps,p1,p2,p3,p4,p5,p6,p7⟩:=VW (i:=0) h.rt rfl hk
 have hl:=h.len
 simp only [length_cons,List.drop_succ_cons,List.drop_zero] at hl p1 p2 p4
 have ha:fH (n::r)=ps.flatten.map iH:=by simp only [fH,hk,if_true,p2]
 have hm:∀ x ∈ ps.flatten,x ∈ r:=fun x hx=>by rw [p2] at hx;exact List.mem_of_mem_take hx
 have hs:∀ a ∈ fH (n::r),a.c.s.length≤500000:=fun a h'=>by
  rw [ha] at h'
  obtain ⟨x,hx,rfl⟩:=List.mem_map.1 h'
  exact h.cs x (mem_cons_of_mem _ (hm x hx))
 refine ⟨⟨by omega,by omega⟩,?_,fun a h'=>?_,hs⟩
 · rw [ha,length_map,p2,List.length_take];omega
 · have h2:=hs a h'
   rw [ha] at h'
   obtain ⟨x,hx,rfl⟩:=List.mem_map.1 h'
   exact LQ (p7 x hx) h2
theorem RA (l:List Vl) (ver:Nat) (t:TypeId) (rest:List Obj):fC 1 0 (⟨t,1,l.map aB,true,ver⟩::rest) (.bA 0 ver)=dD l:=by
 have:(l.map aB).map (PV.bL (gF 0 0 (⟨t,1,l.map aB,true,ver⟩::rest)))=l.map aB:=by
  rw [List.map_map];exact List.map_congr_left fun x _=>rfl
 simp only [fC,Nat.not_lt_zero,if_false,gF,List.getElem?_cons_zero,Nat.le_refl,decide_true,Bool.true_and,beq_self_eq_true,if_true,this]
 rfl
theorem Jj {n:fE}{r:aY}(h:nH (n::r)):(aC (n::r)).length≤100000∧((aC (n::r)).map dB).flatten.length≤100000:=by
 have h1:=wu h.rt
 have hl:=h.len
 simp only [length_cons] at hl
 have:∀ qs:List aY,(∀ q ∈ qs,(dB q).length≤q.length)→(qs.map dB).flatten.length≤qs.flatten.length:=by
  intro qs
  induction qs with
  | nil=>intro _;simp
  | cons a t ih=>
   intro hq
   have h1:=hq a (List.mem_cons_self ..)
   have h2:=ih fun q hx=>hq q (mem_cons_of_mem _ hx)
   simp only [List.map_cons,List.flatten_cons,List.length_append];omega
 have h2:=this _ fun q hq=>(Bo (h.rt.part q hq).1).1
 omega
theorem nH.names {n:fE}{r:aY}(h:nH (n::r)):(bF (n::r)).length≤100000∧∀ s ∈ bF (n::r),s.length≤4611686018427387904:=by
 have hl:=h.len
 simp only [length_cons] at hl
 by_cases hk:n.kind=2
 · obtain ⟨_,_,ps,h3,h4,_⟩:=h.rt.parts
   have e:bF (n::r)=ps.map Y.nameOf:=by simp only [bF,hk,if_true,fo h3]
   have h1:=wu h.rt
   have e2:aC (n::r)=ps.map Y.gU:=by simp only [aC,hk,fo h3];rfl
   rw [e2,length_map] at h1
   rw [e]
   refine ⟨by rw [length_map];omega,fun s hs=>?_⟩
   obtain ⟨q,hq,rfl⟩:=List.mem_map.1 hs
   cases q with
   | nil=>exact Nat.zero_le _
   | cons y z=>exact h.nm y (mem_cons_of_mem _ (by rw [← h4];exact List.mem_flatten.2 ⟨_,hq,List.mem_cons_self ..⟩))
 · have e:bF (n::r)=[]:=by simp [bF,hk]
   rw [e];exact ⟨Nat.zero_le _,fun s hs=>by cases hs⟩
end Lp
namespace Lp
open Go Go.Proofs
open List (length_cons length_drop length_nil nil_append tail_drop)
open Nat (reduceAdd reduceLeDiff reduceMul reduceSub)
theorem Ow (v:aY) (i c:Nat) (hv:v.length≤4611686018427387904) (h:Y.skip (v.drop i) 1=some c):ai Tryz.prog 82 [aG v,.int .i64 i] [] (.int .i64 (i+c:Nat)) []:=by
 refine Q_.pure (T:=aP Tryz.prog []) 0 hD (aj ah) aU (by decide) ?_
 (conv=>arg 4;cbv);simp only [↓BL,Gf,↓DY,↓zP,↓DZ,zQ,↓nT,nu,jh,fA,FD,reduceAdd,reduceSub,sD,bY,Jw,Jy,zR]
 refine aF (fun m S=>∃ (j k c':Nat),m=c'∧Y.skip (v.drop j) k=some c'∧j+c'=i+c∧S=⟨mkT 19 [(0,aG v),(1,.int .i64 j),(5,.int .i64 k)],[]⟩) c ⟨i,1,c,rfl,h,rfl,?_⟩ ?_
 · simp only [VE,aG,sD];rfl
 rintro m S ⟨j,k,c',rfl,hs,hj,rfl⟩
 simp only [↓BL,Gf,↓DY,↓zP,↓DZ,zQ,↓nT,nu,jh,fA,FD,reduceAdd,reduceSub,sD,VE,bY,aG,bH,Jw,Jy,zR,bq,fF,aN,eH,↓zh,↓MQ,JP,uS,Gg,Jz,Bool.not_false,Bool.and_self,reduceLeDiff,forall_const,ne_eq,reduceCtorEq,not_false_eq_true,true_and,PV.bool.injEq,Int.toNat_natCast,Nat.zero_add,decide_eq_true_eq,length_cons,length_nil]
 refine ⟨fun hk=>?_,fun hk=>?_⟩
 · obtain ⟨k,rfl⟩:∃ k',k=k'+1:=⟨k-1,by omega⟩
   have hjl:j<v.length:=by
    rcases Nat.lt_or_ge j v.length with h' | h'
    · exact h'
    · rw [List.drop_eq_nil_of_le h'] at hs;simp [Y.skip] at hs
   rw [List.drop_eq_getElem_cons hjl] at hs
   obtain ⟨hm,c'',rfl,hs'⟩:=Y.dx hs
   have hle:=Y.dR _ _ _ hs'
   simp only [length_drop] at hle
   have hk2:((k+1:Nat):Int)+(v[j].many-1)=((k+v[j].many.toNat:Nat):Int):=by omega
   exact ⟨by omega,v[j],List.getElem?_eq_getElem hjl,by omega,by omega,by omega,c'',by omega,j+1,k+v[j].many.toNat,c'',rfl,hs',by omega,by rw [hk2];rfl⟩
 · rw [if_pos trivial]
   have hk0:k=0:=by have:=of_decide_eq_false hk;omega
   subst hk0
   have:m=0:=by cases hd:v.drop j <;> rw [hd] at hs <;> simp [Y.skip] at hs <;> exact hs.symm
   subst this
   congr 1;omega
def FX (v:aY):Obj:=⟨44,11,v.map bH,true,0⟩
theorem xC (v:aY):fB [FX v]:=by
 intro o ho x hx p hp
 simp only [List.mem_singleton] at ho
 subst ho
 simp only [FX,List.mem_map] at hx
 obtain ⟨n,_,rfl⟩:=hx
 simp only [bH,PV.cells,List.mem_cons,List.not_mem_nil,or_false] at hp
 rcases hp with rfl | rfl | rfl | rfl | rfl | rfl | rfl | rfl | rfl | rfl | rfl <;> rfl
theorem UQ (n:fE):(bH n).cells.length=11∧(bH n).cells.all PV.storable=true:=⟨rfl,rfl⟩
theorem aas (d n:Nat) (objs:List Obj) (v:aY):(v.map bH).map (PV.bL (fC d n objs))=v.map bH:=by
 rw [List.map_map]
 exact List.map_congr_left fun x _=>rfl
theorem UR:ai Tryz.prog 55 [.sl 11 [] (some true)] [] (.bA 0 0) [FX []]:=by
 refine iW.made (T:=aP Tryz.prog []) 0 hD (aj ah) aU ?_
 (conv=>arg 4;cbv);simp only [↓BL,Gf,↓DY,↓zP,↓DZ,zQ,↓nT,Li,FD,reduceAdd,reduceSub,sD,VE,bY,Jw,Jy,zR,fq,forall_const,reduceCtorEq,false_imp_iff,and_true,TK.slice.injEq,exists_eq',true_and]
 exact ⟨_,0,0,_,Weak.wI 2 44 11 rfl,rfl,rfl,rfl,rfl,rfl,xC []⟩
theorem RB (v:aY) (hv:v.length≤1099511627776):ai Tryz.prog 55 [.sl 11 (v.map bH) (some false)] [] (.bA 0 0) [FX v]:=by
 refine iW.made (T:=aP Tryz.prog []) 0 hD (aj ah) aU ?_
 (conv=>arg 4;cbv);simp only [↓BL,Gf,↓DY,↓zP,↓DZ,zQ,↓nT,Li,FD,reduceAdd,reduceSub,sD,VE,bY,Jw,Jy,zR,fq,forall_const,reduceCtorEq,false_imp_iff,and_true,TK.slice.injEq,exists_eq',true_and]
 simp only [bQ,eO,nk,newObj,jg,bY,ne_eq,reduceCtorEq,not_false_eq_true,true_and,if_true,List.all_nil,Nat.zero_mul,Nat.zero_le,nil_append,length_nil,List.getElem?_cons_zero,Option.some.injEq]
 refine ⟨rfl,rfl,rfl,rfl,?_,_,rfl,rfl,rfl,rfl,rfl,?_,?_,fun _ _ h=>h.elim,_,0,2,_,Weak.refl _ _,rfl,rfl,rfl,rfl,?_,xC v⟩
 · intro y hy
   obtain ⟨n,_,rfl⟩:=List.mem_map.1 hy
   exact UQ n
 · simp;omega
 · simp;omega
 · simp only [gM,FX,List.replicate_zero,nil_append,aas]
theorem RD (v:aY) (hv:v.length≤1099511627776):ai Tryz.prog 55 [aG v] [] (.bA 0 0) [FX v]:=
 ai.split (pre:=[]) (post:=[]) (fun h=>by
  have:v=[]:=by simpa using h
  subst this
  exact UR) (RB v hv)
theorem UU (t:aY) (i:Int) (h0:0≤i) (hi:i.toNat<t.length) (hl:t.length≤1000000) (ho:Y.One t):ai Tryz.prog 82 [aG t,.int .i64 i] [] (.int .i64 (i.toNat+(Y.qD t i.toNat).length:Nat)) []:=by
 obtain ⟨c,hc⟩:=ho.at hi
 have hle:=Y.dR _ _ _ hc
 rw [length_drop] at hle
 have hs:(Y.qD t i.toNat).length=c:=by unfold Y.qD;rw [hc];simp only [List.length_take,length_drop];omega
 have:=Ow t i.toNat c (by omega) hc
 rw [Int.toNat_of_nonneg h0] at this
 rw [hs]
 exact this
def qK:dJ:=fun args objs K=>match args with
 | [a0,.int .i64 i]=>fU aG a0 (HK.mk:HK fun t=>(0≤i)∧(i.toNat<t.length)∧(t.length≤1000000)∧(Y.One t)∧K (.int .i64 (i.toNat+(Y.qD t i.toNat).length:Nat)) objs 0)
 | _=>False
theorem Ky:aD Tryz.prog 82 (qK):=by
 intro args objs K h
 unfold qK at h
 split at h
 · rename_i a0 i
   obtain ⟨t,rfl,h1,h2,h3,h4,hk⟩:=h
   exact ⟨_,_,_,.pure _ rfl ((UU t i h1 h2 h3 h4)),hk⟩
 · exact h.elim
def kU:Nat→List aY→List (List PV)
 | _,[]=>[]
 | i,p::ps=>[.int .i64 i,.int .i64 (i+p.length:Nat)]::kU (i+p.length) ps
theorem yH:∀ (ps:List aY) (i:Nat),(kU i ps).length=ps.length
 | [],_=>rfl
 | p::ps,i=>by simp only [kU,length_cons,yH ps]
theorem LU:∀ (ps:List aY) (i:Nat),∀ y ∈ kU i ps,y.length=2
 | [],_,y,h=>by cases h
 | p::ps,i,y,h=>by
  rcases List.mem_cons.1 h with rfl | h
  · rfl
  · exact LU ps _ y h
theorem UW (t:aY):ai Tryz.prog 54 [aG t] [] (.fn 81 [] [.addr (aG t)]) []:=by
 refine XZ.pure (T:=aP Tryz.prog []) 1 hD (aj ah) aU (by decide) ?_
 (conv=>arg 4;cbv);simp only [↓BL,Gf,↓DY,↓zP,↓DZ,zQ,↓nT,nu,jh,fA,reduceAdd,reduceSub,sD,bY,JE,jO,newObj,aG,Gg,Jz,ne_eq,reduceCtorEq,not_false_eq_true,true_and,length_cons,length_nil,nil_append]
 exact ⟨rfl,rfl,rfl⟩
def Db:dJ:=fun args objs K=>match args with
 | [a0]=>fU aG a0 (HK.mk:HK fun t=>K (.fn 81 [] [.addr (aG t)]) objs 0)
 | _=>False
theorem RF:aD Tryz.prog 54 (Db):=by
 intro args objs K h
 unfold Db at h
 split at h
 · rename_i a0
   obtain ⟨t,rfl,hk⟩:=h
   exact ⟨_,_,_,.pure _ rfl (UW t),hk⟩
 · exact h.elim
theorem RH (t:aY) (n:fE) (ps:List aY) (ho:Y.One t) (hl:t.length≤1000000) (hg0:t[0]?=some n) (hp:Y.parts n.many.toNat (t.drop 1)=some ps) (hm:0≤n.many) :
  Gives Tryz.prog 81 [.addr (aG t)] (if n.kind=1 then [] else kU 1 ps):=by
 refine Ra.gives (fnT:=uR [(82,qK)]) hD (af Ky ah) aU ?_
 intro I J objs y hI Jv Yu
 have hpl:=Y.bB _ _ _ hp
 have JW:=Y.fV _ _ _ hp
 rw [length_drop] at JW
 have hmn:n.many=(ps.length:Int):=by omega
 (conv=>arg 4;cbv);simp(maxSteps:=400000)only[↓au,av,BEq.rfl,reduceIte,reduceCtorEq,Nat.reduceLT,reduceAdd,reduceSub,reduceMul,Nat.reduceBEq,reduceLeDiff,Int.reduceToNat,Int.reduceLE,hg0]
 refine aF (fun m S=>∃ (k i:Nat) (O:List Obj) (rest:List aY),k+rest.length=ps.length∧m=rest.length∧Y.parts rest.length (t.drop i)=some rest∧ps.drop k=rest∧(kU 1 ps).drop k=kU i rest∧(if n.kind=1 then O=objs else I k O)∧
  S=⟨dz 28 [(0,.Fx y),(1,.addr (aG t)),(3,.int .i64 i),(8,.int .i64 n.many),(9,.int .i64 k)],O⟩) ps.length ⟨0,1,objs,ps,by omega,rfl,by rw [hpl];exact hp,rfl,rfl,by split;rfl;exact hI,?_⟩ ?_
 · simp only [bG,keepR,reduceAdd,kS,Nat.reduceBEq,List.map_nil]
   rfl
 rintro m S ⟨k,i,O,rest,hk,rfl,hps,hd,hrw,Xk,rfl⟩
 cases rest with
 | nil=>
  simp only [length_nil,Nat.add_zero] at hk
  have hlt:((k:Int)<(ps.length:Int))=False:=eq_false (by omega)
  simp(maxSteps:=400000)only[↓au,av,BEq.rfl,reduceIte,reduceCtorEq,Nat.reduceLT,reduceAdd,reduceSub,reduceMul,Nat.reduceBEq,reduceLeDiff,Int.reduceToNat,Int.reduceLE,hmn,hlt]
  refine ⟨.inl rfl,.inl ?_⟩
  by_cases h1:n.kind=1
  · rw [if_pos h1] at Xk ⊢;rw [Xk];exact hI
  · rw [if_neg h1] at Xk ⊢;rw [yH,← hk];exact Xk
 | cons p qs=>
  simp only [length_cons] at hk
  obtain ⟨c,qs',h1,h2,h3⟩:=Y.dW (k:=qs.length) hps
  simp only [List.cons.injEq] at h2
  obtain ⟨hp1,rfl⟩:=h2
  have hc:=Y.dR _ _ _ h1
  simp only [length_drop] at hc
  have hlt:((k:Int)<(ps.length:Int))=True:=eq_true (by omega)
  have hpc:p.length=c:=by rw [hp1,List.length_take,length_drop];omega
  have hsub:(Y.qD t i).length=c:=by
   have e:Y.qD t i=p:=by unfold Y.qD;rw [h1];exact hp1.symm
   rw [e,hpc]
  have zi:(0≤(i:Int))=True:=eq_true (by omega)
  by_cases hk1:n.kind=1
  · have Ut:=eq_true hk1
    simp(maxSteps:=400000)only[↓au,av,BEq.rfl,reduceIte,reduceCtorEq,Nat.reduceLT,reduceAdd,reduceSub,reduceMul,Nat.reduceBEq,reduceLeDiff,Int.reduceToNat,Int.reduceLE,hmn,hlt,↓qK,Int.toNat_natCast,hsub,hg0,Ut]
    rw [if_pos hk1] at Xk
    have e1:(kU 1 ps).drop (k+1)=kU (i+c) qs:=by
     have:=congrArg List.tail hrw
     simpa [kU,tail_drop,hpc] using this
    have e2:ps.drop (k+1)=qs:=by
     have:=congrArg List.tail hd
     simpa [tail_drop] using this
    exact ⟨by omega,by omega,hl,ho,⟨by omega,by omega⟩,qs.length,by omega,k+1,i+c,O,qs,by omega,rfl,by rw [← List.drop_drop];exact h3,e2,e1,Xk,by rw [Int.natCast_add k 1];rfl⟩
  · have Ut:=eq_false hk1
    simp(maxSteps:=400000)only[↓au,av,BEq.rfl,reduceIte,reduceCtorEq,Nat.reduceLT,reduceAdd,reduceSub,reduceMul,Nat.reduceBEq,reduceLeDiff,Int.reduceToNat,Int.reduceLE,hmn,hlt,↓qK,Int.toNat_natCast,hsub,hg0,Ut,Yt]
    have e1:(kU 1 ps).drop (k+1)=kU (i+c) qs:=by
     have:=congrArg List.tail hrw
     simpa [kU,tail_drop,hpc] using this
    have e2:ps.drop (k+1)=qs:=by
     have:=congrArg List.tail hd
     simpa [tail_drop] using this
    have e3:(kU 1 ps)[k]?=some [.int .i64 (i:Int),.int .i64 (i+c:Nat)]:=by
     have:=congrArg (fun l=>l[0]?) hrw
     simpa [kU,hpc] using this
    rw [if_neg hk1] at Xk
    exact ⟨by omega,by omega,hl,ho,rfl,k,Xk,e3,fun O' hI'=>⟨⟨by omega,by omega⟩,qs.length,by omega,k+1,i+c,O',qs,by omega,rfl,by rw [← List.drop_drop];exact h3,e2,e1,hI',by rw [Int.natCast_add k 1];rfl⟩,
     fun O' hJ'=>⟨.inr rfl,.inr ⟨k,by rw [yH];omega,hJ'⟩⟩⟩
end Lp
namespace Lp
open Go Go.Proofs
open List (mem_singleton)
open Nat (reduceAdd reduceLeDiff reduceMul reduceSub)
open Int (reduceLE reduceToNat)
def uh:dJ:=fun args objs K=>match args with
 | [a]=>fU aG a (HK.mk:HK fun t=>t.length≤1000000∧K (.bA objs.length 0) (objs++[FX t]) 2)
 | _=>False
theorem Ox:aD Tryz.prog 55 uh:=by
 intro args objs K h
 unfold uh at h
 split at h
 · rename_i a
   obtain ⟨t,rfl,hv,hk⟩:=h
   have h:=mI.made (P:=Tryz.prog) (objs:=objs) _ _ rfl (xC t) (RD t (by omega))
   exact ⟨_,_,_,h,by simpa [PV.shift,PV.qi] using hk⟩
 · exact h.elim
theorem LV (t:aY):∀ (ps:List aY) (i0 k:Nat) (args:List PV),ps.flatten=(t.drop i0).take ps.flatten.length→(kU i0 ps)[k]?=some args→
  ∃ p o,ps[k]?=some p∧args=[.int .i64 (o:Nat),.int .i64 (o+p.length:Nat)]∧(t.drop o).take p.length=p
 | [],i0,k,args,_,h=>by simp [kU] at h
 | p::ps,i0,0,args,hf,h=>by
  simp only [kU,List.getElem?_cons_zero,Option.some.injEq] at h
  refine ⟨p,i0,rfl,h.symm,?_⟩
  have:=congrArg (List.take p.length) hf
  simp only [List.flatten_cons,List.take_left,List.length_append] at this
  rw [List.take_take,Nat.min_eq_left (by omega)] at this
  exact this.symm
 | p::ps,i0,k+1,args,hf,h=>by
  simp only [kU,List.getElem?_cons_succ] at h
  have:=congrArg (List.drop p.length) hf
  simp only [List.flatten_cons,List.drop_left,List.length_append] at this
  rw [List.drop_take,List.drop_drop,Nat.add_sub_cancel_left] at this
  obtain ⟨q,o,h1,h2,h3⟩:=LV t ps (i0+p.length) k args this h
  exact ⟨q,o,by simpa using h1,h2,h3⟩
def RI (t:aY):Obj:=⟨23,1,[aG t],true,1⟩
def FY (t:aY):List aY→Nat→List Obj
 | [],_=>[RI t,⟨38,1,[.sl 0 [] (some true)],true,1⟩]
 | p::ps,v=>[RI t,⟨38,1,[.bA 2 v],true,1⟩,FW (p::ps) v]
theorem abC (t:aY) (l:List aY) (v:Nat):2≤(FY t l v).length∧jR (FY t l v):=by
 cases l with
 | nil=>
  refine ⟨by simp [FY],?_⟩
  intro o ho x hx c hc
  simp only [FY,RI,List.mem_cons,List.not_mem_nil,or_false] at ho
  rcases ho with rfl | rfl
  · simp only [mem_singleton] at hx;subst hx
    simp only [aG,PV.cells,mem_singleton] at hc;subst hc;rfl
  · simp only [mem_singleton] at hx;subst hx
    simp only [PV.cells,mem_singleton] at hc;subst hc;rfl
 | cons p ps=>
  refine ⟨by simp [FY],?_⟩
  intro o ho x hx c hc
  simp only [FY,RI,FW,List.mem_cons,List.not_mem_nil,or_false] at ho
  rcases ho with rfl | rfl | rfl
  · simp only [mem_singleton] at hx;subst hx
    simp only [aG,PV.cells,mem_singleton] at hc;subst hc;rfl
  · simp only [mem_singleton] at hx;subst hx
    simp only [PV.cells,mem_singleton] at hc;subst hc;simp [FY,PV.v_]
  · simp only [List.mem_map] at hx
    obtain ⟨y,_,rfl⟩:=hx
    simp only [aG,PV.cells,mem_singleton] at hc;subst hc;rfl
theorem acF (x:fE) (q:aY):(FX (x::q)).live=true∧(FX (x::q)).ver=0∧(FX (x::q)).sz=11∧(FX (x::q)).ty=44∧(FX (x::q)).xs=bH x::q.map bH:=⟨rfl,rfl,rfl,rfl,rfl⟩
theorem afr (l:List aY) (v:Nat):(FW l v).live=true∧(FW l v).ver=v∧(FW l v).sz=1∧(FW l v).ty=23∧(FW l v).xs=l.map aG:=⟨rfl,rfl,rfl,rfl,rfl⟩
theorem V5 (k:Nat) (X:List Obj) (x:fE) (q:aY) (ver:Nat) (t:TypeId) (h:X[k]?=some ⟨t,11,bH x::q.map bH,true,ver⟩):fC 1 k X (.bA k ver)=aG (x::q):=by
 have e:(bH x::q.map bH).map (PV.bL (gF 0 k X))=bH x::q.map bH:=Ry (gF 0 k X) (fun _=>rfl) (x::q)
 simp only [fC,Nat.lt_irrefl,if_false,gF,h,Nat.le_refl,decide_true,Bool.true_and,beq_self_eq_true,if_true,e]
 rfl
theorem aat (a b:Obj) (D:List aY) (ver:Nat):fC 2 0 [a,b,FW D ver] (.bA 2 ver)=kT D:=by
 simp only [FW,fC,Nat.not_lt_zero,if_false,gF,List.getElem?_cons_succ,List.getElem?_cons_zero,Nat.zero_le,decide_true,Bool.true_and,beq_self_eq_true,if_true,Ey (gF 1 0 _) (fun _=>rfl)]
 rfl
theorem aau :
  (∀ d X v i f,fC d 2 X (.bR 1 v i f)=.bR 1 v i f)∧(∀ d X v i f,fC d 3 X (.bR 1 v i f)=.bR 1 v i f)∧
  (∀ d n X T t u,gM d n X ⟨T,1,[aG t],true,u⟩=⟨T,1,[aG t],true,u⟩)∧
  (∀ d n X T u,gM d n X ⟨T,1,[.sl 0 [] (some true)],true,u⟩=⟨T,1,[.sl 0 [] (some true)],true,u⟩)∧
  (∀ d X T v u,gM d 3 X ⟨T,1,[.bA 2 v],true,u⟩=⟨T,1,[.bA 2 v],true,u⟩)∧
  (∀ d n X l v,gM d n X (FW l v)=FW l v):=
 ⟨fun _ _ _ _ _=>rfl,fun _ _ _ _ _=>rfl,fun _ _ _ _ _ _=>rfl,fun _ _ _ _ _=>rfl,fun _ _ _ _ _=>rfl,fun d n X l v=>Rz d n X 23 l v⟩
def acG (l:List aY):PV:=if l=[] then .sl 0 [] (some true) else kT l
theorem Kz (t:aY) (ho:Y.One t) (hl:t.length≤1000000):ai Tryz.prog 30 [aG t] [] (acG (aC t)) []:=by
 obtain ⟨n,r,ps,hv,hm,hp,hfl,hps,hpo,hmn,JW⟩:=vI t ho
 have hg0:t[0]?=some n:=by rw [hv];rfl
 have hd1:t.drop 1=r:=by rw [hv];rfl
 have hrl:r.length+1=t.length:=by rw [hv];rfl
 have hr:aC t=if n.kind=1 then [] else ps.map Y.gU:=by rw [hv,aC,hpo]
 have hgv:=RH t n ps ho hl hg0 (by rw [hd1];exact hp) hm
 refine Ui.a_ (T:=aP Tryz.prog [(54,Db),(55,uh)]) 2 hD (aj (af RF (af Ox ah))) aU (by decide) fun Q hQ=>?_
 (conv=>arg 4;cbv);simp(maxSteps:=400000)only[↓au,av,BEq.rfl,reduceIte,reduceCtorEq,Nat.reduceLT,reduceAdd,reduceSub,reduceMul,Nat.reduceBEq,reduceLeDiff,reduceToNat,reduceLE,hQ,↓Db]
 obtain ⟨qs,hqs,hrows⟩:∃ qs:List aY,qs=(if n.kind=1 then [] else ps)∧(if n.kind=1 then [] else kU 1 ps)=kU 1 qs:=by
  by_cases h1:n.kind=1
  · exact ⟨[],by rw [if_pos h1],by rw [if_pos h1];rfl⟩
  · exact ⟨ps,by rw [if_neg h1],by rw [if_neg h1]⟩
 have hr':aC t=qs.map Y.gU:=by
  rw [hr,hqs];split <;> rfl
 have hqf:qs.flatten=(t.drop 1).take qs.flatten.length:=by
  rw [hqs];split
  · rfl
  · rw [hd1,hfl];simp
 have hql:qs.length≤t.length:=by
  rw [hqs];split
  · simp
  · omega
 have aeG:∀ p ∈ qs,Y.One p:=by
  rw [hqs];split
  · intro p h;cases h
  · exact hps
 rw [hrows] at hgv
 clear hqs hrows hr
 refine H9 81 [.addr (aG t)] (kU 1 qs) (fun i O=>∃ ver,i≤qs.length∧O=FY t ((qs.take i).map Y.gU) ver) rfl rfl rfl trivial hgv (LU qs 1) ⟨0,Nat.zero_le _,rfl⟩ ?_ ?_ ?_
 · rintro i O ⟨ver,_,rfl⟩
   exact abC _ _ _
 · rintro i args O ⟨ver,hi,rfl⟩ ha
   obtain ⟨p,o,h1,rfl,h3⟩:=LV t qs 1 i args hqf ha
   have hil:=(List.getElem?_eq_some_iff.1 h1).1
   have htk:(qs.take (i+1)).map Y.gU=(qs.take i).map Y.gU++[Y.gU p]:=by rw [List.take_add_one,h1];simp
   have afs:=(aeG p (List.mem_of_getElem? h1)).ne
   obtain ⟨x,q,hpx⟩:∃ x q,p=x::q:=by
    cases p with
    | nil=>exact absurd rfl afs
    | cons x q=>exact ⟨x,q,rfl⟩
   have hxl:p.length=q.length+1:=by rw [hpx];rfl
   have hol:o+p.length≤t.length:=by
    have:=congrArg List.length h3
    rw [List.length_take,List.length_drop] at this
    omega
   have zo:(0≤(o:Int))=True:=eq_true (by omega)
   have c1:((o:Int)≤((o+p.length:Nat):Int))=True:=eq_true (by omega)
   have c2:(((o+p.length:Nat):Int)≤(t.length:Int))=True:=eq_true (by omega)
   have hsl:List.drop o (List.take (o+p.length) t)=p:=by rw [List.drop_take,show o+p.length-o=p.length by omega,h3]
   subst hpx
   simp only [List.length_cons] at c1 c2 hsl hol
   clear hxl
   cases hD:(qs.take i).map Y.gU with
   | nil=>
    unfold FY RI
    simp(maxSteps:=400000)only[↓au,av,BEq.rfl,reduceIte,reduceCtorEq,Nat.reduceLT,reduceAdd,reduceSub,reduceMul,Nat.reduceBEq,reduceLeDiff,reduceToNat,reduceLE,hQ,qX,knI,↓uh,zo,c1,c2,hsl,acF,List.set_cons_zero]
    refine ⟨by omega,by omega,?_⟩
    refine aT _ (Weak.freeze 1 2 ?_ _) ?_
    · exact Nat.le_refl _
    have hz:∀ a b:Obj,fC 1 2 [a,b,⟨44,11,bH { x with name:=[] }::q.map bH,true,0⟩] (.bA 2 0)=aG ({ x with name:=[] }::q):=fun a b=>V5 2 _ _ q 0 _ rfl
    simp(maxSteps:=400000)only[↓au,av,BEq.rfl,reduceIte,reduceCtorEq,Nat.reduceLT,reduceAdd,reduceSub,reduceMul,Nat.reduceBEq,reduceLeDiff,reduceToNat,reduceLE,hQ,hz,aau,List.take_succ_cons,List.take_zero]
    refine ⟨1,by omega,?_⟩
    rw [htk,hD];rfl
   | cons d ds=>
    unfold FY RI
    simp(maxSteps:=400000)only[↓au,av,BEq.rfl,reduceIte,reduceCtorEq,Nat.reduceLT,reduceAdd,reduceSub,reduceMul,Nat.reduceBEq,reduceLeDiff,reduceToNat,reduceLE,hQ,qX,knI,↓uh,zo,c1,c2,hsl,acF,List.set_cons_zero]
    refine ⟨by omega,by omega,?_⟩
    refine aT _ (Weak.freeze 1 3 ?_ _) ?_
    · exact (by decide:2≤3)
    have hz:∀ a b c:Obj,fC 1 3 [a,b,c,⟨44,11,bH { x with name:=[] }::q.map bH,true,0⟩] (.bA 3 0)=aG ({ x with name:=[] }::q):=fun a b c=>V5 3 _ _ q 0 _ rfl
    have hdl:ds.length≤t.length:=by
     have:=congrArg List.length hD
     simp only [List.length_map,List.length_take,List.length_cons] at this
     omega
    simp(maxSteps:=400000)only[↓au,av,BEq.rfl,reduceIte,reduceCtorEq,Nat.reduceLT,reduceAdd,reduceSub,reduceMul,Nat.reduceBEq,reduceLeDiff,reduceToNat,reduceLE,hQ,hz,aau,afr,List.take_succ_cons,List.take_zero]
    refine ⟨by omega,by omega,ver+1,by omega,?_⟩
    rw [htk,hD]
    simp only [List.cons_append,FW,List.map_cons,List.map_append,List.map_nil]
    rfl
 · rintro O ⟨ver,_,rfl⟩
   rw [yH,List.take_length,← hr']
   cases hD:aC t with
   | nil=>
    unfold FY RI
    simp(maxSteps:=400000)only[↓au,av,BEq.rfl,reduceIte,reduceCtorEq,Nat.reduceLT,reduceAdd,reduceSub,reduceMul,Nat.reduceBEq,reduceLeDiff,reduceToNat,reduceLE,hQ]
    rw [hD];rfl
   | cons d ds=>
    unfold FY RI
    simp(maxSteps:=400000)only[↓au,av,BEq.rfl,reduceIte,reduceCtorEq,Nat.reduceLT,reduceAdd,reduceSub,reduceMul,Nat.reduceBEq,reduceLeDiff,reduceToNat,reduceLE,hQ]
    rw [hD]
    exact (aat _ _ _ _).symm
theorem Oy (t:aY) (ho:Y.One t) (hl:t.length≤1000000):ai Tryz.prog 30 [aG t] [] (kT (aC t)) []:=by
 refine (Kz t ho hl).res ?_
 unfold acG
 split
 · rename_i h;rw [h];exact ji 0 1
 · exact .refl _
def qL:dJ:=fun args objs K=>match args with
 | [a0]=>fU aG a0 (HK.mk:HK fun t=>(Y.One t)∧(t.length≤1000000)∧K (kT (aC t)) objs 0)
 | _=>False
theorem KA:aD Tryz.prog 30 (qL):=by
 intro args objs K h
 unfold qL at h
 split at h
 · rename_i a0
   obtain ⟨t,rfl,h1,h2,hk⟩:=h
   exact ⟨_,_,_,.pure _ rfl (Oy t h1 h2),hk⟩
 · exact h.elim
end Lp
namespace Lp
open Go Go.Proofs
open Nat (reduceAdd reduceLeDiff reduceMul reduceSub)
open Int (reduceLE reduceToNat)
theorem Gt {n:Nat}{l m:List (Nat×PV)}(h:∀ i,lM l i=lM m i):dz n l=dz n m:=
 xW (by simp [nU]) fun i hi=>by rw [uU,if_pos hi,h]
theorem RJ (t:aY) (n:fE) (hl:t.length≤1000000) (hg0:t[0]?=some n) (hm:0≤n.many) (hml:1+n.many.toNat≤t.length):ai Tryz.prog 52 [aG t,.int .i64 0] [] (bW (((t.drop 1).take n.many.toNat).map iH)) []:=by
 refine NY.a_ (T:=aP Tryz.prog []) 1 hD (aj ah) aU (by decide) fun Q hQ=>?_
 have e1:(0:Int)+1=1:=rfl
 have e2:Int.toNat 1=1:=rfl
 have t1:(1+n.many).toNat=1+n.many.toNat:=by omega
 have c1:((1:Int)≤1+n.many)=True:=eq_true (by omega)
 have c2:(1+n.many≤(t.length:Int))=True:=eq_true (by omega)
 have hR:List.drop 1 (List.take (1+n.many.toNat) t)=(t.drop 1).take n.many.toNat:=by rw [List.drop_take];congr 1;omega
 have hRl:((t.drop 1).take n.many.toNat).length=n.many.toNat:=by rw [List.length_take,List.length_drop];omega
 (conv=>arg 4;cbv);simp(maxSteps:=400000)only[↓au,av,BEq.rfl,reduceIte,reduceCtorEq,Nat.reduceLT,reduceAdd,reduceSub,reduceMul,Nat.reduceBEq,reduceLeDiff,reduceToNat,reduceLE,hQ,hg0,e1,e2,t1,c1,c2,hR]
 generalize (t.drop 1).take n.many.toNat=R at *
 refine ⟨⟨by omega,by omega⟩,?_⟩
 refine xV (hz:=Nat.zero_le _) ⟨dz 35 [(5,.bA 0 0),(19,aG R),(20,.int .i64 R.length),(21,.int .i64 0)],[⟨87,7,[],true,0⟩]⟩ R.length ?_ ?_ ?_
  (I:=fun m S=>∃ i ver:Nat,i+m=R.length∧S=⟨dz 35 [(5,.bA 0 ver),(19,aG R),(20,.int .i64 R.length),(21,.int .i64 i)],[⟨87,7,((R.take i).map iH).map dU,true,ver⟩]⟩)
 · simp(maxSteps:=400000)only[↓au,av,BEq.rfl,reduceIte,reduceCtorEq,Nat.reduceLT,reduceAdd,reduceSub,reduceMul,Nat.reduceBEq,reduceLeDiff,reduceToNat,reduceLE,List.take_nil]
   refine (Weak.wI 5 87 7 (by rfl)).trans ?_
   rw [nV.1,Gt (m:=[(5,.bA 0 0),(19,aG R),(20,.int .i64 R.length),(21,.int .i64 0)])]
   · exact Weak.refl _ _
   · intro i
     simp only [lM]
     by_cases h3:i=5
     · subst h3;rfl
     · simp only [h3,if_false]
 · exact ⟨0,0,by omega,rfl⟩
 rintro m S ⟨i,ver,him,rfl⟩
 rcases Nat.lt_or_ge i R.length with h | h
 · have hlt:((i:Int)<(R.length:Int))=True:=eq_true (by omega)
   have hgi:=List.getElem?_eq_getElem h
   generalize R[i]=x at hgi
   have htk:(R.take (i+1)).map iH=(R.take i).map iH++[⟨x.n,x.c⟩]:=by rw [List.take_add_one,hgi];simp [iH]
   have hti:(R.take i).length=i:=by rw [List.length_take];omega
   simp(maxSteps:=400000)only[↓au,av,BEq.rfl,reduceIte,reduceCtorEq,Nat.reduceLT,reduceAdd,reduceSub,reduceMul,Nat.reduceBEq,reduceLeDiff,reduceToNat,reduceLE,hQ,hlt,hgi,iN,iT,AU,bT,eF,atB,adl,hti,Un,List.take_succ_cons,List.take_zero]
   refine ⟨by omega,by omega,by omega,⟨by omega,by omega⟩,m-1,by omega,i+1,ver+1,by omega,?_⟩
   have hk:∀ d m O (l:List lQ) v,gM d m O ⟨87,7,l.map dU,true,v⟩=⟨87,7,l.map dU,true,v⟩:=fun d m O l v=>by
    have:(l.map dU).map (PV.bL (fC d m O))=l.map dU:=by rw [List.map_map];exact List.map_congr_left fun x _=>rfl
    simp only [gM,this]
   have e:List.map dU (List.map iH (List.take i R))++[dU ⟨x.n,x.c⟩]=(((R.take (i+1)).map iH).map dU):=by rw [htk];simp
   simp only [e,List.map_cons,List.map_nil,hk]
   rfl
 · have hlt:((i:Int)<(R.length:Int))=False:=eq_false (by omega)
   rw [List.take_of_length_le h]
   simp(maxSteps:=400000)only[↓au,av,BEq.rfl,reduceIte,reduceCtorEq,Nat.reduceLT,reduceAdd,reduceSub,reduceMul,Nat.reduceBEq,reduceLeDiff,reduceToNat,reduceLE,hQ,hlt,NZ]
theorem Oz (t:aY) (hl:t.length≤1000000) (ho:Y.One t):ai Tryz.prog 28 [aG t] [] (if Y.kindOf t=1 then bW (fH t) else .sl 0 [] (some true)) []:=by
 obtain ⟨n,r,ps,hv,hm,hp,hfl,hps,hpo,hmn,JW⟩:=vI t ho
 have hg0:t[0]?=some n:=by rw [hv];rfl
 have hkd:Y.kindOf t=n.kind:=by rw [hv];rfl
 rw [hkd]
 by_cases hk:n.kind=1
 · rw [if_pos hk]
   have ha:fH t=((t.drop 1).take n.many.toNat).map iH:=by rw [hv];simp [fH,hk]
   have hml:1+n.many.toNat≤t.length:=by rw [hv,List.length_cons];omega
   rw [ha]
   have hsp:=RJ t n hl hg0 hm hml
   generalize ((t.drop 1).take n.many.toNat).map iH=A at *
   have hok:aD Tryz.prog 52 (fun args objs K=>args=[aG t,.int .i64 0]∧K (bW A) objs 0):=by
    rintro args objs K ⟨rfl,hk⟩
    exact ⟨_,_,_,.pure _ rfl hsp,hk⟩
   refine I8.a_ (T:=aP Tryz.prog [(52,_)]) 0 hD (aj (af hok ah)) aU (by decide) fun Q hQ=>?_
   (conv=>arg 4;cbv);simp(maxSteps:=400000)only[↓au,av,BEq.rfl,reduceIte,reduceCtorEq,Nat.reduceLT,reduceAdd,reduceSub,reduceMul,Nat.reduceBEq,reduceLeDiff,reduceToNat,reduceLE,hQ,hg0,hk]
 · rw [if_neg hk]
   have hk':=eq_false hk
   refine I8.a_ (T:=aP Tryz.prog []) 0 hD (aj ah) aU (by decide) fun Q hQ=>?_
   (conv=>arg 4;cbv);simp(maxSteps:=400000)only[↓au,av,BEq.rfl,reduceIte,reduceCtorEq,Nat.reduceLT,reduceAdd,reduceSub,reduceMul,Nat.reduceBEq,reduceLeDiff,reduceToNat,reduceLE,hQ,hg0,hk']
theorem KC (t:aY) (hl:t.length≤1000000) (ho:Y.One t):ai Tryz.prog 28 [aG t] [] (bW (fH t)) []:=by
 refine (Oz t hl ho).res ?_
 split
 · exact .refl _
 · rename_i h
   have:fH t=[]:=by
    cases t with
    | nil=>rfl
    | cons n r=>have hk:¬ n.kind=1:=h;simp [fH,hk]
   rw [this]
   exact ji 0 7
def vK:dJ:=fun args objs K=>match args with
 | [a0]=>fU aG a0 (HK.mk:HK fun t=>(t.length≤1000000)∧(Y.One t)∧K (bW (fH t)) objs 0)
 | _=>False
theorem KD:aD Tryz.prog 28 (vK):=by
 intro args objs K h
 unfold vK at h
 split at h
 · rename_i a0
   obtain ⟨t,rfl,h1,h2,hk⟩:=h
   exact ⟨_,_,_,.pure _ rfl (KC t h1 h2),hk⟩
 · exact h.elim
end Lp
namespace Lp
open Go Go.Proofs
open List (length_take map_append map_map take_add_one take_length)
open Nat (reduceAdd reduceLeDiff reduceMul reduceSub zero_le)
open Int (reduceEq reduceLE reduceToNat)
theorem LW (l:List (List UInt8)) (ver:Nat) (t:TypeId) (rest:List Obj):fC 1 0 (⟨t,1,l.map .str,true,ver⟩::rest) (.bA 0 ver)=dQ l:=by
 have:(l.map PV.str).map (PV.bL (gF 0 0 (⟨t,1,l.map .str,true,ver⟩::rest)))=l.map .str:=by
  rw [map_map];exact List.map_congr_left fun x _=>rfl
 simp only [fC,Nat.not_lt_zero,if_false,gF,List.getElem?_cons_zero,Nat.le_refl,decide_true,Bool.true_and,beq_self_eq_true,if_true,this]
 rfl
theorem LX (o:Obj) (l:List Vl) (ver:Nat) (t:TypeId) (rest:List Obj):fC 1 0 (o::⟨t,1,l.map aB,true,ver⟩::rest) (.bA 1 ver)=dD l:=by
 have:(l.map aB).map (PV.bL (gF 0 0 (o::⟨t,1,l.map aB,true,ver⟩::rest)))=l.map aB:=by
  rw [map_map];exact List.map_congr_left fun x _=>rfl
 simp only [fC,Nat.not_lt_zero,if_false,gF,List.getElem?_cons_succ,List.getElem?_cons_zero,zero_le,decide_true,Bool.true_and,beq_self_eq_true,if_true,this]
 rfl
theorem abD {n:fE}{ps:List aY}{i:Nat}{p:aY}(hp:ps[i]?=some p) (hne:p≠[]):∃ y z,p=y::z∧(n::ps.flatten)[1+(ps.take i).flatten.length]?=some y:=by
 obtain ⟨y,z,rfl⟩:∃ y z,p=y::z:=by
  cases p with
  | nil=>exact absurd rfl hne
  | cons y z=>exact ⟨y,z,rfl⟩
 refine ⟨y,z,rfl,?_⟩
 have hi:=(List.getElem?_eq_some_iff.1 hp).1
 have h2:ps.flatten=(ps.take i).flatten++(ps.drop i).flatten:=by rw [← List.flatten_append,List.take_append_drop]
 have h3:ps.drop i=(y::z)::ps.drop (i+1):=by
  rw [List.drop_eq_getElem_cons hi];rw [List.getElem?_eq_getElem hi] at hp;rw [Option.some.inj hp]
 rw [Nat.add_comm,List.getElem?_cons_succ,h2,List.getElem?_append_right (Nat.le_refl _),Nat.sub_self,h3]
 rfl
theorem V6:∀ (f:Nat) (t:aY),t.length≤f→nH t→ai Tryz.prog 11 [aG t] [] (aB (dB t)) []
 | 0,t,h,hw=>absurd (List.length_eq_zero_iff.1 (by omega)) hw.rt.one.ne
 | f+1,[],_,hw=>absurd rfl hw.rt.one.ne
 | f+1,n::r,h,hw=>by
  have hok:aD Tryz.prog 11 (fun args objs K=>match args with | [a]=>fU aG a (HK.mk:HK fun p=>p.length≤f∧nH p∧K (aB (dB p)) objs 0) | _=>False):=by
   intro args objs K h
   split at h
   · obtain ⟨p,rfl,h1,h2,hk⟩:=h
     exact ⟨_,_,_,.pure _ rfl (V6 f p h1 h2),hk⟩
   · exact h.elim
  refine aah.a_ (T:=aP Tryz.prog [(30,qL),(28,vK),(27,C_),(31,pF),(29,oN),(11,_)]) 0 hD (aj (af KA (af KD (af Rv (af FO (af Ji (af hok ah))))))) aU (by decide) fun Q hQ=>?_
  simp only [List.length_cons] at h
  have hl:=hw.len
  have ho:=hw.rt.one
  have hwp:=hw.part
  have hwl:=Jj hw
  have hE:=F5 hw.rt
  have hg0:(n::r)[0]?=some n:=rfl
  have hA:=hw.atoms
  have hN:=hw.names
  have hNo:=hw.rt.names
  obtain ⟨_,_,raw,h3,h4,_⟩:=hw.rt.parts
  have hP:n.kind≠1→aC (n::r)=raw.map Y.gU:=fun hk=>by simp only [aC,hk,if_false,fo h3]
  have hNm:n.kind=2→bF (n::r)=raw.map Y.nameOf:=fun hk=>by simp only [bF,hk,if_true,fo h3]
  have hrow:=fun {i:Nat}{p:aY}=>abD (n:=n) (ps:=raw) (i:=i) (p:=p)
  rw [h4] at hrow
  have hrl:raw.flatten.length=r.length:=by rw [h4]
  generalize hT:n::r=T at *
  have hTl:T.length=r.length+1:=by rw [← hT];rfl
  by_cases k0:n.kind=0
  · have hr:dB T=[aV]:=by rw [hE];simp [k0]
    (conv=>arg 4;cbv);simp(maxSteps:=400000)only[↓au,av,BEq.rfl,reduceIte,reduceCtorEq,Nat.reduceLT,reduceAdd,reduceSub,reduceMul,Nat.reduceBEq,reduceLeDiff,reduceToNat,reduceLE,hQ,hg0,bI,bJ,Aj,Ak,bT,reduceEq,k0,hr]
    rfl
  have n0:=eq_false k0
  by_cases k1:n.kind=1
  · have hr:dB T=[(jd n.n (fH T)).1]:=by rw [hE];simp [k1]
    (conv=>arg 4;cbv);simp(maxSteps:=400000)only[↓au,av,BEq.rfl,reduceIte,reduceCtorEq,Nat.reduceLT,reduceAdd,reduceSub,reduceMul,Nat.reduceBEq,reduceLeDiff,reduceToNat,reduceLE,hQ,hg0,bI,bJ,Aj,Ak,bT,reduceEq,n0,k1,↓vK,↓C_,lW,dX,hr]
    obtain ⟨a1,a2,a3,a4⟩:=hA k1
    exact ⟨by omega,ho,a1,by omega,a3,a4,rfl⟩
  have n1:=eq_false k1
  by_cases k3:n.kind=3
  · have hr:dB T=[⟨6,0,[],[],false,0⟩]:=by rw [hE];simp [k3]
    (conv=>arg 4;cbv);simp(maxSteps:=400000)only[↓au,av,BEq.rfl,reduceIte,reduceCtorEq,Nat.reduceLT,reduceAdd,reduceSub,reduceMul,Nat.reduceBEq,reduceLeDiff,reduceToNat,reduceLE,hQ,hg0,bI,bJ,Aj,Ak,bT,reduceEq,n0,n1,k3,hr]
  have n3:=eq_false k3
  by_cases k24:n.kind=2∨n.kind=4
  rotate_left 1
  · have n2:=eq_false fun e:n.kind=2=>k24 (.inl e)
    have n4:=eq_false fun e:n.kind=4=>k24 (.inr e)
    have hr:dB T=j6 []:=by rw [hE,if_neg k0,if_neg k1,if_neg k3,if_neg fun e:n.kind=2=>k24 (.inl e),if_neg fun e:n.kind=4=>k24 (.inr e)]
    (conv=>arg 4;cbv);simp(maxSteps:=400000)only[↓au,av,BEq.rfl,reduceIte,reduceCtorEq,Nat.reduceLT,reduceAdd,reduceSub,reduceMul,Nat.reduceBEq,reduceLeDiff,reduceToNat,reduceLE,hQ,hg0,bI,bJ,Aj,Ak,bT,reduceEq,n0,n1,n3,n2,n4,↓oN,aar,ads,hr]
    exact zero_le _
  have hk1:n.kind≠1:=k1
  have hps:=hP hk1
  generalize hpp:aC T=ps at *
  have hpl:ps.length=raw.length:=by rw [hps,List.length_map]
  have kk:(n.kind=2∧((n.kind=4)=False))∨((n.kind=2)=False∧n.kind=4):=by
   rcases k24 with e | e
   · exact .inl ⟨e,eq_false (by omega)⟩
   · exact .inr ⟨eq_false (by omega),e⟩
  rcases kk with ⟨k2,n4⟩ | ⟨n2,k4⟩
  · (conv=>arg 4;cbv);simp(maxSteps:=400000)only[↓au,av,BEq.rfl,reduceIte,reduceCtorEq,Nat.reduceLT,reduceAdd,reduceSub,reduceMul,Nat.reduceBEq,reduceLeDiff,reduceToNat,reduceLE,hQ,hg0,bI,bJ,Aj,Ak,bT,reduceEq,n0,n1,n3,k2,n4,↓qL,hpp]
    refine ⟨ho,by omega,?_⟩
    refine xV ⟨dz 81 [(0,aG T),(5,.bA 0 0),(6,.bA 1 0),(7,.int .i64 1),(43,kT ps),(44,.int .i64 ps.length),(45,.int .i64 0)],[⟨9,1,[],true,0⟩,⟨28,1,[],true,0⟩]⟩ ps.length ?_ ?_ ?_
     (I:=fun m S=>∃ i v1 v2:Nat,i+m=ps.length∧S=⟨dz 81 [(0,aG T),(5,.bA 0 v1),(6,.bA 1 v2),(7,.int .i64 ((1+(raw.take i).flatten.length:Nat):Int)),(43,kT ps),(44,.int .i64 ps.length),(45,.int .i64 i)],[⟨9,1,((raw.take i).map Y.nameOf).map .str,true,v1⟩,⟨28,1,((ps.take i).map dB).map aB,true,v2⟩]⟩)
    · simp(maxSteps:=400000)only[↓au,av,BEq.rfl,reduceIte,reduceCtorEq,Nat.reduceLT,reduceAdd,reduceSub,reduceMul,Nat.reduceBEq,reduceLeDiff,reduceToNat,reduceLE,List.take_nil]
      refine (Weak.wI 5 9 1 (by rfl)).trans ?_
      rw [nV.1]
      refine (Weak.wI 6 28 1 (by rfl)).trans ?_
      rw [nV.1,Gt (m:=[(0,aG T),(5,.bA 0 0),(6,.bA 1 0),(7,.int .i64 1),(43,kT ps),(44,.int .i64 ps.length),(45,.int .i64 0)])]
      · exact Weak.refl _ _
      · intro i
        simp only [lM]
        by_cases h5:i=5
        · subst h5;rfl
        by_cases h6:i=6
        · subst h6;rfl
        · simp only [h5,h6,if_false]
          repeat' split
          all_goals first | rfl | omega
    · exact ⟨0,0,0,by omega,rfl⟩
    rintro m S ⟨i,v1,v2,him,rfl⟩
    rcases Nat.lt_or_ge i ps.length with h' | h'
    · have hlt:((i:Int)<(ps.length:Int))=True:=eq_true (by omega)
      have hgi:=List.getElem?_eq_getElem h'
      have hpi:=hwp _ (List.getElem_mem h')
      generalize ps[i]=p at hgi hpi
      obtain ⟨q,hq,Yr⟩:∃ q,raw[i]?=some q∧Y.gU q=p:=by
       rw [hps,List.getElem?_map] at hgi
       cases hx:raw[i]? with
       | none=>rw [hx] at hgi;cases hgi
       | some q=>rw [hx] at hgi;exact ⟨q,rfl,Option.some.inj hgi⟩
      have hqn:q≠[]:=fun e=>hpi.1.rt.one.ne (by rw [← Yr,e];rfl)
      obtain ⟨y,z,hyz,hy⟩:=hrow hq hqn
      have hpq:p.length=q.length:=by rw [← Yr,Y.fe]
      have hyn:Y.nameOf q=y.name:=by rw [hyz];rfl
      have htk:(ps.take (i+1)).map dB=(ps.take i).map dB++[dB p]:=by rw [take_add_one,hgi];simp
      have htn:(raw.take (i+1)).map Y.nameOf=(raw.take i).map Y.nameOf++[y.name]:=by rw [take_add_one,hq];simp [hyn]
      have htf:(raw.take (i+1)).flatten.length=(raw.take i).flatten.length+p.length:=by rw [take_add_one,hq,hpq];simp
      have hlf:(raw.take (i+1)).flatten.length≤raw.flatten.length:=by
       have h2:raw.flatten=(raw.take (i+1)).flatten++(raw.drop (i+1)).flatten:=by rw [← List.flatten_append,List.take_append_drop]
       rw [h2,List.length_append];omega
      have ht3:(ps.take i).length=i:=by rw [length_take];omega
      have ht4:(raw.take i).length=i:=by rw [length_take];omega
      generalize hPl:1+(raw.take i).flatten.length=P at *
      have zp:(0≤(P:Int))=True:=eq_true (by omega)
      simp(maxSteps:=400000)only[↓au,av,BEq.rfl,reduceIte,reduceCtorEq,Nat.reduceLT,reduceAdd,reduceSub,reduceMul,Nat.reduceBEq,reduceLeDiff,reduceToNat,reduceLE,hQ,hlt,hgi,zp,hy,ht3,ht4]
      exact ⟨by omega,by omega,by omega,by have:=hpi.2;omega,hpi.1,by omega,by omega,⟨by omega,by omega⟩,⟨by omega,by omega⟩,m-1,by omega,i+1,v1+1,v2+1,by omega,by
       rw [htn,htk,map_append,map_append,show ((1+(raw.take (i+1)).flatten.length:Nat):Int)=(P:Int)+(p.length:Int) by omega,Int.natCast_add,Int.natCast_one];rfl⟩
    · have hlt:((i:Int)<(ps.length:Int))=False:=eq_false (by omega)
      have hi:i=ps.length:=by omega
      subst hi
      have htk:ps.take ps.length=ps:=take_length
      have htr:raw.take ps.length=raw:=by rw [hpl];exact take_length
      rw [htr,htk]
      simp(maxSteps:=400000)only[↓au,av,BEq.rfl,reduceIte,reduceCtorEq,Nat.reduceLT,reduceAdd,reduceSub,reduceMul,Nat.reduceBEq,reduceLeDiff,reduceToNat,reduceLE,hQ,hlt]
      refine aT _ (Weak.freeze 1 0 (zero_le _) _) ?_
      have hr:dB T=iB (bF T) (ps.map dB):=by rw [hE];simp [k2]
      rw [← hNm k2]
      simp(maxSteps:=400000)only[↓au,av,BEq.rfl,reduceIte,reduceCtorEq,Nat.reduceLT,reduceAdd,reduceSub,reduceMul,Nat.reduceBEq,reduceLeDiff,reduceToNat,reduceLE,hQ,LW,LX,hg0,k2,n4,↓pF,dX,reduceEq,hr]
      refine ⟨by have:=hN.1;omega,by omega,fun v hv=>?_,hN.2⟩
      obtain ⟨q,hq,rfl⟩:=List.mem_map.1 hv
      exact (Bo (hwp q hq).1.rt).2
  · (conv=>arg 4;cbv);simp(maxSteps:=400000)only[↓au,av,BEq.rfl,reduceIte,reduceCtorEq,Nat.reduceLT,reduceAdd,reduceSub,reduceMul,Nat.reduceBEq,reduceLeDiff,reduceToNat,reduceLE,hQ,hg0,bI,bJ,Aj,Ak,bT,reduceEq,n0,n1,n3,n2,k4,↓qL,hpp]
    refine ⟨ho,by omega,?_⟩
    refine xV ⟨dz 81 [(0,aG T),(5,.bA 0 0),(6,.bA 1 0),(7,.int .i64 1),(43,kT ps),(44,.int .i64 ps.length),(45,.int .i64 0)],[⟨9,1,[],true,0⟩,⟨28,1,[],true,0⟩]⟩ ps.length ?_ ?_ ?_
     (I:=fun m S=>∃ i v1 v2:Nat,i+m=ps.length∧S=⟨dz 81 [(0,aG T),(5,.bA 0 v1),(6,.bA 1 v2),(7,.int .i64 ((1+(raw.take i).flatten.length:Nat):Int)),(43,kT ps),(44,.int .i64 ps.length),(45,.int .i64 i)],[⟨9,1,((raw.take i).map Y.nameOf).map .str,true,v1⟩,⟨28,1,((ps.take i).map dB).map aB,true,v2⟩]⟩)
    · simp(maxSteps:=400000)only[↓au,av,BEq.rfl,reduceIte,reduceCtorEq,Nat.reduceLT,reduceAdd,reduceSub,reduceMul,Nat.reduceBEq,reduceLeDiff,reduceToNat,reduceLE,List.take_nil]
      refine (Weak.wI 5 9 1 (by rfl)).trans ?_
      rw [nV.1]
      refine (Weak.wI 6 28 1 (by rfl)).trans ?_
      rw [nV.1,Gt (m:=[(0,aG T),(5,.bA 0 0),(6,.bA 1 0),(7,.int .i64 1),(43,kT ps),(44,.int .i64 ps.length),(45,.int .i64 0)])]
      · exact Weak.refl _ _
      · intro i
        simp only [lM]
        by_cases h5:i=5
        · subst h5;rfl
        by_cases h6:i=6
        · subst h6;rfl
        · simp only [h5,h6,if_false]
          repeat' split
          all_goals first | rfl | omega
    · exact ⟨0,0,0,by omega,rfl⟩
    rintro m S ⟨i,v1,v2,him,rfl⟩
    rcases Nat.lt_or_ge i ps.length with h' | h'
    · have hlt:((i:Int)<(ps.length:Int))=True:=eq_true (by omega)
      have hgi:=List.getElem?_eq_getElem h'
      have hpi:=hwp _ (List.getElem_mem h')
      generalize ps[i]=p at hgi hpi
      obtain ⟨q,hq,Yr⟩:∃ q,raw[i]?=some q∧Y.gU q=p:=by
       rw [hps,List.getElem?_map] at hgi
       cases hx:raw[i]? with
       | none=>rw [hx] at hgi;cases hgi
       | some q=>rw [hx] at hgi;exact ⟨q,rfl,Option.some.inj hgi⟩
      have hqn:q≠[]:=fun e=>hpi.1.rt.one.ne (by rw [← Yr,e];rfl)
      obtain ⟨y,z,hyz,hy⟩:=hrow hq hqn
      have hpq:p.length=q.length:=by rw [← Yr,Y.fe]
      have hyn:Y.nameOf q=y.name:=by rw [hyz];rfl
      have htk:(ps.take (i+1)).map dB=(ps.take i).map dB++[dB p]:=by rw [take_add_one,hgi];simp
      have htn:(raw.take (i+1)).map Y.nameOf=(raw.take i).map Y.nameOf++[y.name]:=by rw [take_add_one,hq];simp [hyn]
      have htf:(raw.take (i+1)).flatten.length=(raw.take i).flatten.length+p.length:=by rw [take_add_one,hq,hpq];simp
      have hlf:(raw.take (i+1)).flatten.length≤raw.flatten.length:=by
       have h2:raw.flatten=(raw.take (i+1)).flatten++(raw.drop (i+1)).flatten:=by rw [← List.flatten_append,List.take_append_drop]
       rw [h2,List.length_append];omega
      have ht3:(ps.take i).length=i:=by rw [length_take];omega
      have ht4:(raw.take i).length=i:=by rw [length_take];omega
      generalize hPl:1+(raw.take i).flatten.length=P at *
      have zp:(0≤(P:Int))=True:=eq_true (by omega)
      simp(maxSteps:=400000)only[↓au,av,BEq.rfl,reduceIte,reduceCtorEq,Nat.reduceLT,reduceAdd,reduceSub,reduceMul,Nat.reduceBEq,reduceLeDiff,reduceToNat,reduceLE,hQ,hlt,hgi,zp,hy,ht3,ht4]
      exact ⟨by omega,by omega,by omega,by have:=hpi.2;omega,hpi.1,by omega,by omega,⟨by omega,by omega⟩,⟨by omega,by omega⟩,m-1,by omega,i+1,v1+1,v2+1,by omega,by
       rw [htn,htk,map_append,map_append,show ((1+(raw.take (i+1)).flatten.length:Nat):Int)=(P:Int)+(p.length:Int) by omega,Int.natCast_add,Int.natCast_one];rfl⟩
    · have hlt:((i:Int)<(ps.length:Int))=False:=eq_false (by omega)
      have hi:i=ps.length:=by omega
      subst hi
      have htk:ps.take ps.length=ps:=take_length
      have htr:raw.take ps.length=raw:=by rw [hpl];exact take_length
      rw [htr,htk]
      simp(maxSteps:=400000)only[↓au,av,BEq.rfl,reduceIte,reduceCtorEq,Nat.reduceLT,reduceAdd,reduceSub,reduceMul,Nat.reduceBEq,reduceLeDiff,reduceToNat,reduceLE,hQ,hlt]
      refine aT _ (Weak.freeze 1 0 (zero_le _) _) ?_
      have hr:dB T=j6 (ps.map dB):=by rw [hE];simp [k4]
      simp(maxSteps:=400000)only[↓au,av,BEq.rfl,reduceIte,reduceCtorEq,Nat.reduceLT,reduceAdd,reduceSub,reduceMul,Nat.reduceBEq,reduceLeDiff,reduceToNat,reduceLE,hQ,LW,LX,hg0,n2,k4,↓oN,aar,reduceEq,hr]
      exact ⟨by omega,by omega⟩
def sw:dJ:=fun args objs K=>match args with
 | [a0]=>fU aG a0 (HK.mk:HK fun t=>(nH t)∧K (aB (dB t)) objs 0)
 | _=>False
theorem yI:aD Tryz.prog 11 (sw):=by
 intro args objs K h
 unfold sw at h
 split at h
 · rename_i a0
   obtain ⟨t,rfl,h1,hk⟩:=h
   exact ⟨_,_,_,.pure _ rfl (V6 t.length t (Nat.le_refl _) h1),hk⟩
 · exact h.elim
end Lp
namespace Lp
open Go Go.Proofs
open Nat (reduceAdd reduceLeDiff reduceMul reduceSub)
def manyN (n:Int):Nat:=(min (max n 0) 1000000).toNat
theorem Yf (t:aY) (n:Int) (hw:nH t):ai Tryz.prog 14 [aG t,.int .i64 n] [] (dD (List.replicate (manyN n) (dB t))) []:=by
 refine Uj.a_ (T:=aP Tryz.prog [(11,sw)]) 1 hD (aj (af yI ah)) aU (by decide) fun Q hQ=>?_
 have hM:(if (1000000:Int)<(if (0:Int) > n then 0 else n) then (1000000:Int) else if (0:Int) > n then 0 else n)=(manyN n:Int):=by
  unfold manyN
  repeat' split
  all_goals omega
 have hMl:manyN n≤1000000:=by unfold manyN;omega
 generalize manyN n=M at *
 (conv=>arg 4;cbv);simp(maxSteps:=400000)only[↓au,av,BEq.rfl,reduceIte,reduceCtorEq,Nat.reduceLT,reduceAdd,reduceSub,reduceMul,Nat.reduceBEq,reduceLeDiff,Int.reduceToNat,Int.reduceLE,hQ,↓sw,hM]
 refine ⟨hw,?_⟩
 refine xV ⟨dz 20 [(5,.bA 0 0),(6,aB (dB t)),(11,.int .i64 M),(12,.int .i64 0)],[⟨28,1,[],true,0⟩]⟩ M ?_ ?_ ?_
  (I:=fun m S=>∃ i v:Nat,i+m=M∧S=⟨dz 20 [(5,.bA 0 v),(6,aB (dB t)),(11,.int .i64 M),(12,.int .i64 i)],[⟨28,1,(List.replicate i (dB t)).map aB,true,v⟩]⟩)
 · simp(maxSteps:=400000)only[↓au,av,BEq.rfl,reduceIte,reduceCtorEq,Nat.reduceLT,reduceAdd,reduceSub,reduceMul,Nat.reduceBEq,reduceLeDiff,Int.reduceToNat,Int.reduceLE,List.take_nil]
   refine (Weak.wI 5 28 1 (by rfl)).trans ?_
   rw [nV.1,Gt (m:=[(5,.bA 0 0),(6,aB (dB t)),(11,.int .i64 M),(12,.int .i64 0)])]
   · exact Weak.refl _ _
   · intro i
     simp only [lM]
     by_cases h5:i=5
     · subst h5;rfl
     · simp only [h5,if_false]
       repeat' split
       all_goals first | rfl | omega
 · exact ⟨0,0,by omega,rfl⟩
 rintro m S ⟨i,v,him,rfl⟩
 rcases Nat.lt_or_ge i M with h | h
 · have hlt:((i:Int)<(M:Int))=True:=eq_true (by omega)
   have hrl:(List.replicate i (dB t)).length=i:=List.length_replicate
   simp(maxSteps:=400000)only[↓au,av,BEq.rfl,reduceIte,reduceCtorEq,Nat.reduceLT,reduceAdd,reduceSub,reduceMul,Nat.reduceBEq,reduceLeDiff,Int.reduceToNat,Int.reduceLE,hQ,hlt,hrl]
   exact ⟨by omega,by omega,⟨by omega,by omega⟩,m-1,by omega,i+1,v+1,by omega,by rw [List.replicate_succ',List.map_append,Int.natCast_add,Int.natCast_one];rfl⟩
 · have hi:i=M:=by omega
   subst hi
   have hlt:((i:Int)<(i:Int))=False:=eq_false (by omega)
   simp(maxSteps:=400000)only[↓au,av,BEq.rfl,reduceIte,reduceCtorEq,Nat.reduceLT,reduceAdd,reduceSub,reduceMul,Nat.reduceBEq,reduceLeDiff,Int.reduceToNat,Int.reduceLE,hQ,hlt,RA]
def Dc:dJ:=fun args objs K=>match args with
 | [a0,.int .i64 n]=>fU aG a0 (HK.mk:HK fun t=>(nH t)∧K (dD (List.replicate (manyN n) (dB t))) objs 0)
 | _=>False
theorem RL:aD Tryz.prog 14 (Dc):=by
 intro args objs K h
 unfold Dc at h
 split at h
 · rename_i a0 n
   obtain ⟨t,rfl,h1,hk⟩:=h
   exact ⟨_,_,_,.pure _ rfl (Yf t n h1),hk⟩
 · exact h.elim
end Lp
namespace Lp
open Go Go.Proofs
def ty1:aY:=[⟨2,1,[],[],0,aV⟩,⟨1,0,[97],[],24,aV⟩]
def ty0:aY:=[⟨0,0,[],[],0,aV⟩]
theorem Yg:gu ty1=true:=by decide
theorem Yh:gu ty0=true:=by decide
theorem vL {t:aY}(h:gu t=true) (hl:t.length≤100000) (hc:∀ n ∈ t,n.c.s.length≤500000∧n.name.length≤4611686018427387904):nH t:=
 ⟨LF h,hl,fun n hn=>(hc n hn).1,fun n hn=>(hc n hn).2⟩
theorem UX:nH ty1:=vL Yg (by decide) (by decide)
theorem adt:nH ty0:=vL Yh (by decide) (by decide)
theorem adu {t:aY}{k:Nat}(hk:k≤100000) (h:FV t k=true):nH t∧t.length≤k:=by
 simp only [FV,Bool.and_eq_true,decide_eq_true_eq,List.all_eq_true] at h
 obtain ⟨⟨h1,h2⟩,h3⟩:=h
 simp only [qE,Bool.and_eq_true] at h3
 refine ⟨vL h3.1 (by omega) fun n hn=>?_,h1⟩
 have:=h2 n hn
 simp only [jI,Bool.and_eq_true,decide_eq_true_eq] at this
 omega
theorem abE:dB ty1=[⟨6,1,[],[],false,0⟩,⟨3,0,[97],[],false,0⟩]:=by decide
theorem abF:dB ty0=[aV]:=by decide
theorem aft (objs:List Obj) (K:KT) :
  (∀ k m,bK D 44 [(0,.int .i64 k),(1,.int .i64 m)] objs K=K (bH ⟨k,m,[],[],0,aV⟩) objs 0)∧
  (∀ k n nm,bK D 44 [(0,.int .i64 k),(4,.int .i64 n),(2,.str nm)] objs K=K (bH ⟨k,0,nm,[],n,aV⟩) objs 0):=by
 have z:aM (D 44)=bH ⟨0,0,[],[],0,aV⟩:=by kernel_rfl
 have a:(D 44).agg=true:=by kernel_rfl
 simp only [bY] at z a
 refine ⟨fun k m=>?_,fun k n nm=>?_⟩
 all_goals
  simp [bK,nN,a,z,bY,oH,bH,aA,aV,PV.isAgg,uK,PV.cells,PV.storable,PV.nD,PV.pure]
theorem OA:ai Tryz.prog 9 [] [] (.bool true) []:=by
 refine AP.a_ (T:=aP Tryz.prog [(11,sw),(14,Dc)]) 0 hD (aj (af yI (af RL ah))) aU (by decide) fun Q hQ=>?_
 have e1:([⟨2,1,[],[],0,aV⟩,⟨1,0,[97],[],24,aV⟩]:aY)=ty1:=rfl
 have e0:([⟨0,0,[],[],0,aV⟩]:aY)=ty0:=rfl
 have m3:manyN 3=3:=rfl
 have m0:manyN (-1)=0:=rfl
 (conv=>arg 4;cbv);simp(maxSteps:=400000)only[↓au,av,BEq.rfl,reduceIte,reduceCtorEq,Nat.reduceLT,Nat.reduceAdd,Nat.reduceSub,Nat.reduceMul,Nat.reduceBEq,Nat.reduceLeDiff,Int.reduceToNat,Int.reduceLE,hQ,tY,aft,iN,iT,AU,bT,eF,↓sw,↓Dc,e1,e0,m3,m0,abE,abF]
 refine ⟨UX,fun _=>⟨UX,fun _=>⟨UX,fun _=>⟨adt,rfl⟩,fun h=>absurd rfl h⟩,fun h=>absurd rfl h⟩,fun h=>absurd rfl h⟩
def vM:dJ:=fun args objs K=>args=[]∧K (.bool true) objs 0
theorem zF:aD Tryz.prog 9 vM:=by
 rintro args objs K ⟨rfl,hk⟩
 exact ⟨_,_,_,.pure _ rfl OA,hk⟩
theorem kQ (objs:List Obj) (K:KT):vM [] objs K=K (.bool true) objs 0:=propext ⟨fun h=>h.2,fun h=>⟨rfl,h⟩⟩
structure RN (t:aY):Prop where
 len:t.length≤4611686018427387904
 txt:∀ n ∈ t,n.s.length≤4611686018427387904∧n.name.length≤4611686018427387904∧n.c.s.length≤4611686018427387904
 cnm:∀ n ∈ t,n.c.name.length≤4611686018427387904
end Lp
namespace Lp
open Go Go.Proofs Go.RowKit
end Lp
namespace Lp
open Go Go.Proofs
instance :Inhabited Nd:=⟨⟨0,0,[],[],false,0⟩⟩
structure Yi (n:Nd):Prop where
 kind:JC .i64 n.kind
 many:JC .i64 n.many
 name:n.name.length≤reachBytes
 s:n.s.length≤reachBytes
 e:JC .i64 n.e
theorem one_cell {t:TypeId}(hc:Tryz.prog.cellsOf t=1){cs:List Value}{off:Nat}{v:Value}(h:cs[off]?=some v):(cs.drop off).take (Tryz.prog.cellsOf t)=[v]:=by
 rw [hc]
 have hl:=(List.getElem?_eq_some_iff.1 h).1
 rw [show (cs.drop off)=cs[off]::cs.drop (off+1) from List.drop_eq_getElem_cons hl]
 rw [List.getElem?_eq_getElem hl] at h
 cases h
 rw [List.take_succ_cons,List.take_zero]
theorem LY:Tryz.prog.underlying 3=some (.int .i64):=by kernel_rfl
theorem Df:Tryz.prog.underlying 9=some .string:=by kernel_rfl
theorem adv:Tryz.prog.underlying 4=some .bool:=by kernel_rfl
theorem aeH:Tryz.prog.underlying 28=some (.slice 42):=by kernel_rfl
theorem LZ:Tryz.prog.cellsOf 3=1:=by kernel_rfl
theorem Dg:Tryz.prog.cellsOf 9=1:=by kernel_rfl
theorem adw:Tryz.prog.cellsOf 4=1:=by kernel_rfl
theorem adx:∃ fs:Array Field,Tryz.prog.underlying 42=some (.struct fs)∧fs.toList.map (fun f=>(f.offset,f.type))=[(0,3),(1,3),(2,9),(3,9),(4,4),(5,3)]:=
 ⟨Tryz.prog.fieldsOf 42,by kernel_rfl,by kernel_rfl⟩
theorem V7:Rd Tryz.prog 42 aA Yi:=by
 intro H eh w fuel cs x h hw
 obtain ⟨fs,ht,hfs⟩:=adx
 obtain ⟨hl,hp⟩:=Ca ht h hw
 rw [hfs] at hp
 have hc:Tryz.prog.cellsOf 42=6:=by kernel_rfl
 rw [hc] at hl
 match cs,hl with
 | [v0,v1,v2,v3,v4,v5],_=>
  obtain ⟨n0,y0,a0,b0⟩:=hp 0 0 3 rfl
  obtain ⟨n1,y1,a1,b1⟩:=hp 1 1 3 rfl
  obtain ⟨n2,y2,a2,b2⟩:=hp 2 2 9 rfl
  obtain ⟨n3,y3,a3,b3⟩:=hp 3 3 9 rfl
  obtain ⟨n4,y4,a4,b4⟩:=hp 4 4 4 rfl
  obtain ⟨n5,y5,a5,b5⟩:=hp 5 5 3 rfl
  rw [one_cell LZ (v:=v0) rfl] at a0
  rw [one_cell LZ (v:=v1) rfl] at a1
  rw [one_cell Dg (v:=v2) rfl] at a2
  rw [one_cell Dg (v:=v3) rfl] at a3
  rw [one_cell adw (v:=v4) rfl] at a4
  rw [one_cell LZ (v:=v5) rfl] at a5
  obtain ⟨k,g0,r0⟩:=Rd.int LY eh w n0 _ _ a0 b0
  obtain ⟨m,g1,r1⟩:=Rd.int LY eh w n1 _ _ a1 b1
  obtain ⟨nm,g2,r2⟩:=Rd.str Df eh w n2 _ _ a2 b2
  obtain ⟨s,g3,r3⟩:=Rd.str Df eh w n3 _ _ a3 b3
  obtain ⟨g,_,r4⟩:=Rd.bool adv eh w n4 _ _ a4 b4
  obtain ⟨e,g5,r5⟩:=Rd.int LY eh w n5 _ _ a5 b5
  refine ⟨⟨k,m,nm,s,g,e⟩,⟨g0,g1,g2,g3,g5⟩,rfl,fun i p v h1 h2=>?_⟩
  match i with
  | 0=>simp [aA,PV.cells] at h1 h2;subst h1;subst h2;exact r0.2 0 _ _ rfl rfl
  | 1=>simp [aA,PV.cells] at h1 h2;subst h1;subst h2;exact r1.2 0 _ _ rfl rfl
  | 2=>simp [aA,PV.cells] at h1 h2;subst h1;subst h2;exact r2.2 0 _ _ rfl rfl
  | 3=>simp [aA,PV.cells] at h1 h2;subst h1;subst h2;exact r3.2 0 _ _ rfl rfl
  | 4=>simp [aA,PV.cells] at h1 h2;subst h1;subst h2;exact r4.2 0 _ _ rfl rfl
  | 5=>simp [aA,PV.cells] at h1 h2;subst h1;subst h2;exact r5.2 0 _ _ rfl rfl
  | i+6=>simp [aA,PV.cells] at h1
structure Big (v:Vl):Prop where
 len:v.length≤1152921504606846976
 txt:∀ n ∈ v,n.s.length≤4611686018427387904∧n.name.length≤4611686018427387904
 nd:∀ n ∈ v,Yi n
theorem rd_val:Rd Tryz.prog 28 aB Big:=by
 intro H eh w fuel cs x h hw
 obtain ⟨v,⟨h1,h2⟩,h3⟩:=Rd.slice (sz:=6) aeH V7 (by kernel_rfl) (by decide) (fun _=>rfl) eh w fuel cs x h hw
 have hb:Tryz.prog.bytesOf 42=64:=by kernel_rfl
 rw [hb,reachBytes] at h1
 refine ⟨v,⟨by omega,fun n hn=>?_,h2⟩,h3⟩
 have g:=h2 n hn
 have g1:=g.name
 have g2:=g.s
 rw [reachBytes] at g1 g2
 exact ⟨by omega,by omega⟩
structure aeI (l:List Vl):Prop where
 len:l.length≤1152921504606846976
 all:∀ v ∈ l,Big v
theorem afu {t e:TypeId}{α:Type}{enc:α→PV}{good:α→Prop}(hu:Tryz.prog.underlying t=some (.slice e)) (hr:Rd Tryz.prog t enc good) (h1:∀ a,(enc a).cells=[enc a]){H:Type}{eh:TypeId×Value→H}{w:World}{base:Nat}{v:Value}{d:DataW H}{p:List MemPlace}
  (hv:Value.okWide Tryz.prog w .any base t v) (h:DataW.Trod eh Tryz.prog w 0 (fun _=>true) true t v d p) (hw:∀ n ∈ DataW.weights Tryz.prog t d,n≤reachBytes):∃ a:α,good a∧dN w (fun _=>True) (enc a) v:=by
 obtain ⟨ad,len,cap,rfl⟩:=Go.WideShapes.okWide_slice hu hv
 obtain ⟨fuel,h⟩:=h
 obtain ⟨a,g,r⟩:=hr eh w fuel _ _ h hw
 rw [h1 a] at r
 exact ⟨a,g,r.2 0 _ _ rfl rfl⟩
theorem jq {R:PV→Value→Prop}{p:PV}{ps:List PV}{v:Value}{vs:List Value}(h:R p v) (hs:dw R ps vs):dw R (p::ps) (v::vs):=
 ⟨by simp [hs.1],fun i q u h1 h2=>by
  cases i with
  | zero=>simp at h1 h2;subst h1;subst h2;exact h
  | succ i=>exact hs.2 i q u (by simpa using h1) (by simpa using h2)⟩
theorem aav {R:PV→Value→Prop}:dw R [] []:=⟨rfl,fun i q u h1=>by simp at h1⟩
end Lp
namespace Lp
open Go Go.Proofs Go.RowKit
structure afy (l:List lQ):Prop where
 len:l.length≤1152921504606846976
 all:∀ a ∈ l,su a.c
end Lp
namespace Lp
open Go Go.Proofs Go.Shelf Go.RowKit Go.Lib Go.ChangeAt
def aaw:List (String×DataW Unit):=[("unicode/utf8.acceptRanges",Lib.acceptData),("unicode/utf8.first",Lib.firstData)]
noncomputable def Yj (os:Os):World:=
 let w0:=World.holding Tryz.prog os ⟨#[],#[],[]⟩
 let put (h:Array Go.Obj) (g:Nat) (cs:Array Value):Array Go.Obj:=h.modify g fun
  | .cells _ t frozen=>.cells cs t frozen
  | o=>o
 let h1:=put w0.heap 0 (Lib.firstTab.map fun z=>Value.int .u8 z).toArray
 let h2:=put h1 1 ((List.range 16).flatMap fun i=>[Value.int .u8 (Lib.accLo i),Value.int .u8 (Lib.accHi i)]).toArray
 { w0 with heap:=h2 }
theorem aeJ (os:Os) (args:Array Value):laidMet Tryz.prog aaw ((Yj os).forCall (fun _ _=>0) ⟨#[],args,[]⟩).memory:=
 (LaidIn.of_run (l:=aaw) [1,0] 8 (by kernel_rfl) (by kernel_rfl) (by kernel_rfl) (by kernel_rfl)).met
theorem Yk {w W:World}(h:w.heap=W.heap) (hT:Lib.Utf8Tabs 0 1 W):Lib.Utf8Tabs 0 1 w:=by
 have e:∀ b:Nat,w.heap[b]?=W.heap[b]?:=fun b=>by rw [h]
 refine ⟨fun c hc=>?_,fun i hi=>⟨?_,?_⟩⟩
 · rw [pO (e 0)];exact hT.1 c hc
 · rw [pO (e 1)];exact (hT.2 i hi).1
 · rw [pO (e 1)];exact (hT.2 i hi).2
theorem adG {W:World}(h:laidMetH Tryz.prog aaw W):rU.holds W.heap:=by
 have hT:Lib.Utf8Tabs 0 1 W:=
  utf8Tabs_of_readsT (U8Types.of196 Tryz.M9) ⟨by kernel_rfl,by kernel_rfl,by kernel_rfl,by kernel_rfl,by kernel_rfl,by kernel_rfl,by kernel_rfl⟩ (Lib.laidMet.reads h (.tail _ (.head _))) (Lib.laidMet.reads h (.head _))
 intro w hw
 exact Yk hw hT
structure afF (l:List (List UInt8)):Prop where
 len:l.length≤1152921504606846976
 all:∀ s ∈ l,s.length≤4611686018427387904
end Lp
namespace Lp
open Go Go.Proofs
instance :Inhabited lQ:=⟨⟨0,⟨0,0,[],[],false,0⟩⟩⟩
structure afG (a:lQ):Prop where
 n:JC .i64 a.n
 c:Yi a.c
theorem Yi.sm {n:Nd}(h:Yi n):su n:=by
 have h1:=h.name
 have h2:=h.s
 rw [reachBytes] at h1 h2
 exact ⟨by omega,by omega⟩
section
variable {H:Type}{eh:TypeId×Value→H}{w:World}{base:Nat}{v:Value}{d:DataW H}{p:List MemPlace}
end
end Lp
namespace Lp
open Go Go.Proofs
theorem afv:∃ fs:Array Field,Tryz.prog.underlying 44=some (.struct fs)∧fs.toList.map (fun f=>(f.offset,f.type))=[(0,3),(1,3),(2,9),(3,9),(4,3),(5,42)]:=
 ⟨Tryz.prog.fieldsOf 44,by kernel_rfl,by kernel_rfl⟩
instance :Inhabited fE:=⟨⟨0,0,[],[],0,⟨0,0,[],[],false,0⟩⟩⟩
structure afw (a:fE):Prop where
 name:a.name.length≤reachBytes
 s:a.s.length≤reachBytes
 c:Yi a.c
theorem aeK:Rd Tryz.prog 44 bH afw:=by
 intro H eh w fuel cs x h hw
 obtain ⟨fs,ht,hfs⟩:=afv
 obtain ⟨hl,hp⟩:=Ca ht h hw
 rw [hfs] at hp
 have hc:Tryz.prog.cellsOf 44=11:=by kernel_rfl
 rw [hc] at hl
 match cs,hl with
 | [v0,v1,v2,v3,v4,v5,v6,v7,v8,v9,v10],_=>
  obtain ⟨n0,y0,a0,b0⟩:=hp 0 0 3 rfl
  obtain ⟨n1,y1,a1,b1⟩:=hp 1 1 3 rfl
  obtain ⟨n2,y2,a2,b2⟩:=hp 2 2 9 rfl
  obtain ⟨n3,y3,a3,b3⟩:=hp 3 3 9 rfl
  obtain ⟨n4,y4,a4,b4⟩:=hp 4 4 3 rfl
  obtain ⟨n5,y5,a5,b5⟩:=hp 5 5 42 rfl
  have hcd:Tryz.prog.cellsOf 42=6:=by kernel_rfl
  rw [hcd] at a5
  rw [one_cell LZ (v:=v0) rfl] at a0
  rw [one_cell LZ (v:=v1) rfl] at a1
  rw [one_cell Dg (v:=v2) rfl] at a2
  rw [one_cell Dg (v:=v3) rfl] at a3
  rw [one_cell LZ (v:=v4) rfl] at a4
  obtain ⟨k,g0,r0⟩:=Rd.int LY eh w n0 _ _ a0 b0
  obtain ⟨m,g1,r1⟩:=Rd.int LY eh w n1 _ _ a1 b1
  obtain ⟨nm,g2,r2⟩:=Rd.str Df eh w n2 _ _ a2 b2
  obtain ⟨s,g3,r3⟩:=Rd.str Df eh w n3 _ _ a3 b3
  obtain ⟨n,g4,r4⟩:=Rd.int LY eh w n4 _ _ a4 b4
  obtain ⟨c,g5,r5⟩:=V7 eh w n5 _ _ a5 b5
  refine ⟨⟨k,m,nm,s,n,c⟩,⟨g2,g3,g5⟩,?_⟩
  exact jq (r0.2 0 _ _ rfl rfl) (jq (r1.2 0 _ _ rfl rfl) (jq (r2.2 0 _ _ rfl rfl) (jq (r3.2 0 _ _ rfl rfl) (jq (r4.2 0 _ _ rfl rfl)
   (jq (r5.2 0 _ v5 rfl rfl) (jq (r5.2 1 _ v6 rfl rfl) (jq (r5.2 2 _ v7 rfl rfl) (jq (r5.2 3 _ v8 rfl rfl) (jq (r5.2 4 _ v9 rfl rfl) (jq (r5.2 5 _ v10 rfl rfl) aav))))))))))
theorem ady:Tryz.prog.underlying 23=some (.slice 44):=by kernel_rfl
theorem aeP:Rd Tryz.prog 23 aG RN:=by
 intro H eh w fuel cs x h hw
 obtain ⟨v,⟨h1,h2⟩,h3⟩:=Rd.slice (sz:=11) ady aeK (by kernel_rfl) (by decide) (fun _=>rfl) eh w fuel cs x h hw
 have hb:Tryz.prog.bytesOf 44=120:=by kernel_rfl
 rw [hb,reachBytes] at h1
 refine ⟨v,⟨by omega,fun n hn=>?_,fun n hn=>?_⟩,h3⟩
 · have g:=h2 n hn
   have g1:=g.name
   have g2:=g.s
   have g3:=g.c.s
   rw [reachBytes] at g1 g2 g3
   exact ⟨by omega,by omega,by omega⟩
 · have g:=(h2 n hn).c.name
   rw [reachBytes] at g
   omega
end Lp
namespace Lp
open Go Go.Proofs
open Nat (reduceAdd reduceLeDiff reduceMul reduceSub)
def nZ (c:Vl→Vl→Int):List Vl→Bool
 | a::b::l=>decide (0≤c b a) && nZ c (b::l)
 | _=>true
theorem AZ (c:Vl→Vl→Int):∀ l:List Vl,nZ c l=true↔∀ j a b,l[j]?=some a→l[j+1]?=some b→0≤c b a
 | []=>by simp [nZ]
 | [a]=>by simp [nZ]
 | a::b::l=>by
  rw [nZ,Bool.and_eq_true,decide_eq_true_eq,AZ c (b::l)]
  constructor
  · rintro ⟨h1,h2⟩ j x y hx hy
    cases j with
    | zero=>
     simp only [List.getElem?_cons_zero,List.getElem?_cons_succ,Option.some.injEq] at hx hy
     subst hx hy;exact h1
    | succ j=>exact h2 j x y (by simpa using hx) (by simpa using hy)
  · intro h
    exact ⟨h 0 a b rfl rfl,fun j x y hx hy=>h (j+1) x y (by simpa using hx) (by simpa using hy)⟩
def adz (f:Nat) (l:List Vl):Prop:=l.length≤1000000∧∀ v ∈ l,v.length≤f∧Ok2 v
theorem KE (f:Nat) (keys:List Vl) (hk:adz f keys):ai Tryz.prog 43 [dD keys] [] (.bool (nZ (gV jm f) keys)) []:=by
 obtain ⟨hl,hk⟩:=hk
 refine zS.a_ (T:=aP Tryz.prog [(67,(oh f))]) 0 hD (aj (af (Ap f) ah)) aU (by decide) fun Q hQ=>?_
 (conv=>arg 4;cbv);simp(maxSteps:=400000)only[↓aH,aI,BEq.rfl,reduceIte,reduceCtorEq,Nat.reduceLT,reduceAdd,reduceSub,reduceMul,Nat.reduceBEq,reduceLeDiff,Int.reduceToNat,Int.reduceLE,hQ]
 refine aF (fun m S=>∃ i:Nat,i+m=keys.length+1∧(∀ j a b,j<i→keys[j]?=some a→keys[j+1]?=some b→0≤gV jm f b a)∧
  S=⟨dz 21 [(0,dD keys),(3,.int .i64 (i+1:Nat))],[]⟩) (keys.length+1) ⟨0,by omega,fun j a b h=>absurd h (by omega),?_⟩ ?_
 · simp only [bG,keepR,reduceAdd,kS,Nat.reduceBEq,List.map_nil]
   rfl
 rintro m S ⟨i,him,hj,rfl⟩
 rcases Nat.lt_or_ge (i+1) keys.length with h | h
 rotate_left 1
 · have hlt:(((i+1:Nat):Int)<(keys.length:Int))=False:=eq_false (by omega)
   simp(maxSteps:=400000)only[↓aH,aI,BEq.rfl,reduceIte,reduceCtorEq,Nat.reduceLT,reduceAdd,reduceSub,reduceMul,Nat.reduceBEq,reduceLeDiff,Int.reduceToNat,Int.reduceLE,hQ,hlt]
   rw [AZ]
   intro j a b ha hb
   exact hj j a b (by have:=(List.getElem?_eq_some_iff.1 hb).1;omega) ha hb
 have hlt:(((i+1:Nat):Int)<(keys.length:Int))=True:=eq_true (by omega)
 have g1:keys[i+1]?=some keys[i+1]:=List.getElem?_eq_getElem h
 have g0:keys[i]?=some (keys[i]'(by omega)):=List.getElem?_eq_getElem (by omega)
 have o1:=hk keys[i+1] (List.getElem_mem _)
 have o0:=hk (keys[i]'(by omega)) (List.getElem_mem _)
 generalize keys[i+1]=y at g1 o1
 generalize keys[i]'(by omega)=x at g0 o0
 have t1:(((i+1:Nat):Int)-1).toNat=i:=by omega
 have z1:(0≤((i+1:Nat):Int))=True:=eq_true (by omega)
 have z2:(0≤((i+1:Nat):Int)-1)=True:=eq_true (by omega)
 have r1:(-9223372036854775808≤((i+1:Nat):Int)-1∧((i+1:Nat):Int)-1≤9223372036854775807)=True:=eq_true ⟨by omega,by omega⟩
 by_cases hc:gV jm f y x<0
 · have hc':(gV jm f y x<0)=True:=eq_true hc
   have hr:nZ (gV jm f) keys=false:=by
    cases hr:nZ (gV jm f) keys with
    | false=>rfl
    | true=>have:=(AZ _ _).1 hr i x y g0 g1;omega
   simp(maxSteps:=400000)only[↓aH,aI,BEq.rfl,reduceIte,reduceCtorEq,Nat.reduceLT,reduceAdd,reduceSub,reduceMul,Nat.reduceBEq,reduceLeDiff,Int.reduceToNat,Int.reduceLE,hQ,hlt,↓oh,g1,g0,t1,z1,z2,r1,hc',hr]
   exact ⟨o1.1,o1.2,o0.2⟩
 · have hc':(gV jm f y x<0)=False:=eq_false hc
   simp(maxSteps:=400000)only[↓aH,aI,BEq.rfl,reduceIte,reduceCtorEq,Nat.reduceLT,reduceAdd,reduceSub,reduceMul,Nat.reduceBEq,reduceLeDiff,Int.reduceToNat,Int.reduceLE,hQ,hlt,↓oh,g1,g0,t1,z1,z2,r1,hc']
   refine ⟨o1.1,o1.2,o0.2,⟨by omega,by omega⟩,m-1,by omega,i+1,by omega,?_,by simp⟩
   intro j a b hji ha hb
   by_cases hjj:j=i
   · subst hjj
     rw [g0] at ha;rw [g1] at hb
     cases ha;cases hb
     omega
   · exact hj j a b (by omega) ha hb
def rQ (f:Nat):dJ:=fun args objs K=>match args with
 | [a0]=>fU dD a0 (HK.mk:HK fun keys=>(adz f keys)∧K (.bool (nZ (gV jm f) keys)) objs 0)
 | _=>False
theorem Jk (f:Nat):aD Tryz.prog 43 (rQ f):=by
 intro args objs K h
 unfold rQ at h
 split at h
 · rename_i a0
   obtain ⟨keys,rfl,h1,hk⟩:=h
   exact ⟨_,_,_,.pure _ rfl (KE f keys h1),hk⟩
 · exact h.elim
end Lp
namespace Lp
open Go Go.Proofs
open List (all_eq_true of_mem_zip)
def jD (v:Vl) (x:Stp):Vl×Int:=
 if x.part then (if jC v=5 then (match (ax v)[x.n.toNat]? with | some w=>(w,0) | none=>([],6)) else ([],5))
 else if jC v=6 then (match qZ v x.name with | some w=>(w,0) | none=>([],6)) else ([],5)
def nA:List Stp→Vl→Vl×Int
 | [],v=>(v,0)
 | x::p,v=>if (jD v x).2=0 then nA p (jD v x).1 else ([],(jD v x).2)
def gJ (s:List UInt8) (v:Vl):Vl:=(nA (dF s) v).1
def xD:Vl→Int
 | []=>0
 | n::_=>n.many
def Jl:Vl→List UInt8
 | []=>[]
 | n::_=>n.s
def ni (g:aY→Vl→Bool) (v:Vl) (names:List (List UInt8)) (ts:List aY):Bool:=(names.zip ts).all fun x=>match qZ v x.1 with | some w=>g x.2 w | none=>false
def xE (g:aY→Vl→Bool) (ts:List aY) (l:List Vl):Bool:=(ts.zip l).all fun x=>g x.1 x.2
def Dh:List UInt8:=[107,101,121]
def A7:List UInt8:=[118,97,108,117,101]
def OB (g:Vl→Bool) (x:Vl):Bool:=match qZ x Dh,qZ x A7 with
 | some k,some w=>xD x==2 && jC k==4 && g w
 | _,_=>false
def nI (g:Vl→Bool):Option (List UInt8)→List Vl→Bool
 | _,[]=>true
 | last,x::l=>OB g x && (match last with | none=>true | some a=>!(Op.bytesLess (Jl (fK x Dh)) a || decide (Jl (fK x Dh)=a))) && nI g (some (Jl (fK x Dh))) l
def KF:Vl→Vl→Int:=gV jm 1000000
def UY (g:Vl→Bool) (s:List UInt8) (x:Vl):Bool:=jC x==5 && xD x !=0 && (ax x).all g && (ax x).all fun y=>gJ s y==gJ s ((ax x).headD [])
def oO (g:Vl→Bool) (s:List UInt8):Option Vl→List Vl→Bool
 | _,[]=>true
 | last,x::l=>UY g s x && (match last with | none=>true | some a=>decide (KF a (gJ s ((ax x).headD []))<0)) && oO g s (some (gJ s ((ax x).headD []))) l
def zG:Nat→aY→Vl→Bool
 | f+1,n::r,v=>
  if n.kind=0 then true
  else if n.kind=1 then v.length==1 && bO n.n (fH (n::r)) (v.headD aV)
  else if n.kind=2 then jC v==6 && ni (zG f) v (bF (n::r)) (aC (n::r)) && (n.n==1 || xD v==(bF (n::r)).length)
  else if n.kind=3 then jC v==6 && (ax v).all (zG f ((aC (n::r)).headD []))
  else jC v==5 && (
   if n.kind=4 then xE (zG f) (aC (n::r)) (ax v) && (ax v).length==(aC (n::r)).length
   else if n.kind=6 then nI (zG f ((aC (n::r)).headD [])) none (ax v)
   else if n.kind=8 then oO (zG f ((aC (n::r)).headD [])) n.s none (ax v)
   else if n.kind=7 then (ax v).all (zG f ((aC (n::r)).headD [])) && nZ KF ((ax v).map (gJ n.s))
   else (ax v).all (zG f ((aC (n::r)).headD [])))
 | _,_,_=>false
def inT (t:aY) (v:Vl):Bool:=zG t.length t v
theorem Dw.head {n:fE}{r:aY}(h:Dw bC dF (n::r)) (hk:n.kind=3∨n.kind=5∨n.kind=6∨n.kind=7∨n.kind=8):∃ p,aC (n::r)=[p]∧Dw bC dF p∧p.length≤r.length:=by
 obtain ⟨h1,h2,ps,h3,h4,_⟩:=h.parts
 have hm:n.many=1:=by
  rcases hk with k | k | k | k | k <;> simp [dh,k] at h1 <;> omega
 have hl:=Y.bB _ _ _ h3
 have e:aC (n::r)=ps.map Y.gU:=by
  have:n.kind≠1:=by omega
  simp only [aC,this,if_false,fo h3]
 rw [hm] at hl
 match ps,hl with
 | [p],_=>
  have:=h.part (Y.gU p) (by rw [e];exact List.mem_cons_self ..)
  exact ⟨Y.gU p,by rw [e];rfl,this⟩
theorem RO:∀ (f g:Nat) (t:aY) (v:Vl),t.length≤f→t.length≤g→Dw bC dF t→zG f t v=zG g t v
 | 0,_,t,_,h,_,hr=>by have:=hr.one.ne;cases t <;> simp at h this
 | f+1,0,t,_,_,h,hr=>by have:=hr.one.ne;cases t <;> simp at h this
 | f+1,g+1,[],_,_,_,_=>rfl
 | f+1,g+1,n::r,v,h1,h2,hr=>by
  simp only [List.length_cons] at h1 h2
  have hp:=hr.part
  have e:∀ p ∈ aC (n::r),zG f p=zG g p:=fun p hx=>funext fun w=>RO f g p w (by have:=(hp p hx).2;omega) (by have:=(hp p hx).2;omega) (hp p hx).1
  have eo:ni (zG f) v (bF (n::r)) (aC (n::r))=ni (zG g) v (bF (n::r)) (aC (n::r)):=by
   unfold ni
   rw [Bool.eq_iff_iff,all_eq_true,all_eq_true]
   refine forall_congr' fun x=>forall_congr' fun hx=>?_
   rw [e x.2 (of_mem_zip hx).2]
  have et:xE (zG f) (aC (n::r)) (ax v)=xE (zG g) (aC (n::r)) (ax v):=by
   unfold xE
   rw [Bool.eq_iff_iff,all_eq_true,all_eq_true]
   refine forall_congr' fun x=>forall_congr' fun hx=>?_
   rw [e x.1 (of_mem_zip hx).1]
  by_cases hk:n.kind=3∨n.kind=5∨n.kind=6∨n.kind=7∨n.kind=8
  · obtain ⟨p,q1,q2,q3⟩:=hr.head hk
    have e1:zG f ((aC (n::r)).headD [])=zG g ((aC (n::r)).headD []):=by
     rw [q1];exact e p (by rw [q1];exact List.mem_cons_self ..)
    simp only [zG,e1,eo,et]
  · have hpl:=(hr.parts).1
    have hk':n.kind=0∨n.kind=1∨n.kind=2∨n.kind=4∨n.kind=9:=by
     by_cases h0:n.kind=0∨n.kind=1∨n.kind=2∨n.kind=4∨n.kind=9
     · exact h0
     · exfalso
       simp only [not_or] at h0 hk
       simp [dh,h0,hk] at hpl
    rcases hk' with k | k | k | k | k
    · simp [zG,k]
    · simp [zG,k]
    · simp [zG,k,eo]
    · simp [zG,k,et]
    · exact absurd k hr.kind
theorem OC {n:fE}{r:aY}(h:Dw bC dF (n::r)) (v:Vl):inT (n::r) v=
  if n.kind=0 then true
  else if n.kind=1 then v.length==1 && bO n.n (fH (n::r)) (v.headD aV)
  else if n.kind=2 then jC v==6 && ni inT v (bF (n::r)) (aC (n::r)) && (n.n==1 || xD v==(bF (n::r)).length)
  else if n.kind=3 then jC v==6 && (ax v).all (inT ((aC (n::r)).headD []))
  else jC v==5 && (
   if n.kind=4 then xE inT (aC (n::r)) (ax v) && (ax v).length==(aC (n::r)).length
   else if n.kind=6 then nI (inT ((aC (n::r)).headD [])) none (ax v)
   else if n.kind=8 then oO (inT ((aC (n::r)).headD [])) n.s none (ax v)
   else if n.kind=7 then (ax v).all (inT ((aC (n::r)).headD [])) && nZ KF ((ax v).map (gJ n.s))
   else (ax v).all (inT ((aC (n::r)).headD []))):=by
 have hp:=h.part
 have e:∀ p ∈ aC (n::r),zG r.length p=inT p:=fun p hx=>funext fun w=>RO _ _ p w (hp p hx).2 (Nat.le_refl _) (hp p hx).1
 have eo:ni (zG r.length) v (bF (n::r)) (aC (n::r))=ni inT v (bF (n::r)) (aC (n::r)):=by
  unfold ni
  rw [Bool.eq_iff_iff,all_eq_true,all_eq_true]
  refine forall_congr' fun x=>forall_congr' fun hx=>?_
  rw [e x.2 (of_mem_zip hx).2]
 have et:xE (zG r.length) (aC (n::r)) (ax v)=xE inT (aC (n::r)) (ax v):=by
  unfold xE
  rw [Bool.eq_iff_iff,all_eq_true,all_eq_true]
  refine forall_congr' fun x=>forall_congr' fun hx=>?_
  rw [e x.1 (of_mem_zip hx).1]
 unfold inT
 rw [List.length_cons]
 by_cases hk:n.kind=3∨n.kind=5∨n.kind=6∨n.kind=7∨n.kind=8
 · obtain ⟨p,q1,q2,q3⟩:=h.head hk
   have e1:zG r.length ((aC (n::r)).headD [])=inT ((aC (n::r)).headD []):=by
    rw [q1];exact e p (by rw [q1];exact List.mem_cons_self ..)
   simp only [zG,e1,eo,et]
   rfl
 · have hpl:=(h.parts).1
   have hk':n.kind=0∨n.kind=1∨n.kind=2∨n.kind=4∨n.kind=9:=by
    by_cases h0:n.kind=0∨n.kind=1∨n.kind=2∨n.kind=4∨n.kind=9
    · exact h0
    · exfalso
      simp only [not_or] at h0 hk
      simp [dh,h0,hk] at hpl
   rcases hk' with k | k | k | k | k
   · simp [zG,k]
   · simp [zG,k]
   · simp only [zG,k,eo];rfl
   · simp only [zG,k,et];rfl
   · exact absurd k h.kind
end Lp
namespace Lp
open Go Go.Proofs
structure HKT (K:KT):Type where
end Lp
namespace Lp
open Go Go.Proofs
end Lp
namespace Lp
open Go Go.Proofs
theorem Big.small {v:Vl}(h:Big v) (hl:v.length≤1000000):Small v:=⟨hl,h.txt⟩
theorem pG {v:Vl}(hr:Rt v):(ax v).length≤v.length∧(bN v).length≤v.length∧(ax v).flatten.length≤v.length∧∀ p ∈ ax v,p.length≤v.length:=by
 obtain ⟨n,r,rfl,_⟩:=eP hr.name hr.one.ne
 obtain ⟨h1,h2,ps,h3,h4,h5,h6,h7⟩:=hr.parts
 obtain ⟨q1,q2⟩:=cZ h3
 have h8:=bB _ _ _ h3
 have h9:=fV _ _ _ h3
 have hfl:(ps.map gU).flatten.length=r.length:=by
  rw [← h4,List.length_flatten,List.length_flatten,List.map_map]
  congr 1
  exact List.map_congr_left fun p _=>fe p
 refine ⟨?_,?_,?_,fun p hp=>Nat.le_of_lt (lZ hr hp).2⟩
 · simp only [ax,q1,List.length_map,List.length_cons];omega
 · simp only [bN,q2]
   split
   · simp only [List.length_map,List.length_cons];omega
   · simp
 · simp only [ax,q1,hfl,List.length_cons];omega
theorem UZ {v:Vl}{k:Nat}(h:Bc v k=true):Rt v∧v.length≤k:=by
 simp only [Bc,Bool.and_eq_true,decide_eq_true_eq] at h
 exact ⟨nJ h.2,h.1.1⟩
theorem aeI.txt {l:List Vl}(h:aeI l):∀ v ∈ l,v.length≤1152921504606846976∧∀ n ∈ v,n.s.length≤4611686018427387904∧n.name.length≤4611686018427387904:=fun v hv=>⟨(h.all v hv).len,(h.all v hv).txt⟩
theorem U0 {v:Vl}(hr:Rt v){q:Nd→Prop}(hq:∀ n,q n→q { n with name:=[] }) (hv:∀ n ∈ v,q n):∀ p ∈ ax v,∀ n ∈ p,q n:=by
 obtain ⟨n,r,rfl,_⟩:=eP hr.name hr.one.ne
 obtain ⟨h1,h2,ps,h3,h4,_,_,_⟩:=hr.parts
 simp only [ax,(cZ h3).1]
 intro p hp m hm
 obtain ⟨p',hp',rfl⟩:=List.mem_map.1 hp
 have hin:∀ x ∈ p',q x:=fun x hx=>hv x (List.mem_cons_of_mem _ (by rw [← h4];exact List.mem_flatten.2 ⟨p',hp',hx⟩))
 cases p' with
 | nil=>cases hm
 | cons a t=>
  rcases List.mem_cons.1 hm with rfl | hm
  · exact hq a (hin a (by simp))
  · exact hin m (List.mem_cons_of_mem _ hm)
end Lp
namespace Lp
open Go Go.Proofs
open Nat (reduceAdd reduceLeDiff reduceMul reduceSub)
theorem Di {v:Vl}(hr:Rt v) (hk:jC v=6):F4 (Me v)∧OI (Me v)=v∧bN v=(Me v).map (·.1)∧ax v=(Me v).map (·.2):=by
 obtain ⟨n,r,rfl,_⟩:=eP hr.name hr.one.ne
 exact acI hr hk
theorem KG (v:Vl) (nm:List UInt8) (hr:Rt v) (hl:v.length≤1000000):ai Tryz.prog 66 [aB v,.str nm] [] (u_ v nm) []:=by
 refine Ad.r_ (T:=aP Tryz.prog [(90,jP),(38,aS)]) 0 hD (aj (af tJ (af jl ah))) aU (by decide) (by decide) fun Q hQ=>?_
 obtain ⟨n,r,hv,_⟩:=eP hr.name hr.one.ne
 obtain ⟨p1,p2,p3,p4⟩:=pG hr
 have hnp:jC v=6∨bN v=[]:=by
  by_cases hk:n.kind=6
  · left;rw [hv];exact hk
  · right;rw [hv];simp [bN,hk]
 have hpn:jC v=6→(bN v).length=(ax v).length:=fun hk=>by
  obtain ⟨_,_,h3,h4⟩:=Di hr hk
  rw [h3,h4];simp
 have ho:=hr.one
 (conv=>arg 4;cbv);simp(maxSteps:=400000)only[↓aH,aI,BEq.rfl,reduceIte,reduceCtorEq,Nat.reduceLT,reduceAdd,reduceSub,reduceMul,Nat.reduceBEq,reduceLeDiff,Int.reduceToNat,Int.reduceLE,hQ,↓jP]
 refine ⟨ho,hl,?_⟩
 refine aF (fun m S=>∃ i:Nat,i+m=(bN v).length∧(∀ (j:Nat) s,j<i→(bN v)[j]?=some s→s≠nm)∧S=⟨dz 27 [(0,aB v),(1,.str nm),(6,dQ (bN v)),(7,.int .i64 i)],[]⟩) (bN v).length ⟨0,by omega,fun j s h=>absurd h (Nat.not_lt_zero j),?_⟩ ?_
 · simp only [bG,keepR,reduceAdd,kS,Nat.reduceBEq,List.map_nil]
   rfl
 rintro m S ⟨i,him,hb,rfl⟩
 have aeL:Me v=(bN v).zip (ax v):=rfl
 rcases Nat.lt_or_ge i (bN v).length with h | h
 · have hlt:((i:Int)<((bN v).length:Int))=True:=eq_true (by omega)
   have zi:(0≤(i:Int))=True:=eq_true (by omega)
   have hk:jC v=6:=hnp.resolve_right fun h0=>by rw [h0] at h;simp at h
   have hpl:=hpn hk
   have hgi:=List.getElem?_eq_getElem h
   have YG:(ax v)[i]?=some ((ax v)[i]'(by omega)):=List.getElem?_eq_getElem _
   generalize (bN v)[i]=s at hgi
   generalize (ax v)[i]'(by omega)=p at YG
   by_cases he:s=nm
   · have he':(s=nm)=True:=eq_true he
     have hres:u_ v nm=.bP [aB p,.bool true]:=by
      have hm:(nm,p) ∈ Me v:=by
       rw [aeL]
       refine List.mem_iff_getElem?.2 ⟨i,?_⟩
       rw [List.getElem?_zip_eq_some]
       exact ⟨by rw [← he];exact hgi,YG⟩
      have:=GA (uE (Di hr hk).1.rise) hm
      simp [u_,qZ,hk,this]
     simp(maxSteps:=400000)only[↓aH,aI,BEq.rfl,reduceIte,reduceCtorEq,Nat.reduceLT,reduceAdd,reduceSub,reduceMul,Nat.reduceBEq,reduceLeDiff,Int.reduceToNat,Int.reduceLE,hQ,hlt,zi,hgi,he',↓aS,YG]
     exact ⟨ho,hl,hres⟩
   · have he':(s=nm)=False:=eq_false he
     simp(maxSteps:=400000)only[↓aH,aI,BEq.rfl,reduceIte,reduceCtorEq,Nat.reduceLT,reduceAdd,reduceSub,reduceMul,Nat.reduceBEq,reduceLeDiff,Int.reduceToNat,Int.reduceLE,hQ,hlt,zi,hgi,he']
     refine ⟨⟨by omega,by omega⟩,m-1,by omega,i+1,by omega,fun j s' hj hs=>?_,rfl⟩
     rcases Nat.lt_or_ge j i with g | g
     · exact hb j s' g hs
     · have:j=i:=by omega
       subst this
       rw [hgi] at hs;cases hs;exact he
 · have hlt:((i:Int)<((bN v).length:Int))=False:=eq_false (by omega)
   have hres:u_ v nm=.bP [.sl 0 [] (some true),.bool false]:=by
    have:qU (Me v) nm=none:=by
     rw [xM,aeL]
     intro hm
     obtain ⟨x,hx,rfl⟩:=List.mem_map.1 hm
     obtain ⟨j,hj,e⟩:=List.mem_iff_getElem.1 (List.of_mem_zip hx).1
     exact hb j x.1 (by omega) (by rw [List.getElem?_eq_getElem hj,e]) rfl
    simp [u_,qZ,this]
   simp(maxSteps:=400000)only[↓aH,aI,BEq.rfl,reduceIte,reduceCtorEq,Nat.reduceLT,reduceAdd,reduceSub,reduceMul,Nat.reduceBEq,reduceLeDiff,Int.reduceToNat,Int.reduceLE,hQ,hlt]
   exact hres
theorem Jm (v:Vl) (nm:List UInt8) (hr:Rt v) (hl:v.length≤1000000):ai Tryz.prog 66 [aB v,.str nm] [] (.bP [aB (fK v nm),.bool (tV v nm)]) []:=(KG v nm hr hl).res (Ke v nm)
def cK:dJ:=fun args objs K=>match args with
 | [a0,.str nm]=>fU aB a0 (HK.mk:HK fun v=>(Rt v)∧(v.length≤1000000)∧K (.bP [aB (fK v nm),.bool (tV v nm)]) objs 0)
 | _=>False
theorem qM:aD Tryz.prog 66 (cK):=by
 intro args objs K h
 unfold cK at h
 split at h
 · rename_i a0 nm
   obtain ⟨v,rfl,h1,h2,hk⟩:=h
   exact ⟨_,_,_,.pure _ rfl (Jm v nm h1 h2),hk⟩
 · exact h.elim
end Lp
namespace Lp
open Go Go.Proofs
end Lp
namespace Lp
open Go Go.Proofs
theorem Dj:aO Tryz.prog 116 54 [.tmp 4,.tmp 5] (gen [] [] [1] Tryz.f116):=bg Tryz.func116 rfl (by kernel_rfl)
theorem Ez:aO Tryz.prog 95 29 [.tmp 4,.tmp 5] (gen [] [(67,none)] [] Tryz.f95):=bg Tryz.func95 rfl (by kernel_rfl)
theorem EA:aO Tryz.prog 68 17 [.tmp 4] (gen [] [] [] Tryz.f68):=bg Tryz.func68 rfl (by kernel_rfl)
theorem Dk:aO Tryz.prog 44 24 [.tmp 4] (gen [7] [(99,none)] [] Tryz.f44):=bg Tryz.func44 rfl (by kernel_rfl)
theorem EB:aO Tryz.prog 40 19 [.tmp 4] (gen [] [(35,none)] [] Tryz.f40):=bg Tryz.func40 rfl (by kernel_rfl)
theorem yZ:aO Tryz.prog 39 54 [.tmp 4] (gen [] [(227,none)] [] Tryz.f39):=bg Tryz.func39 rfl (by kernel_rfl)
theorem xG:aO Tryz.prog 41 78 [.tmp 4] (gen [] [(99,none)] [] Tryz.f41):=bg Tryz.func41 rfl (by kernel_rfl)
theorem y7:aO Tryz.prog 42 85 [.tmp 6] (gen [] [(135,none),(903,none)] [] Tryz.f42):=bg Tryz.func42 rfl (by kernel_rfl)
theorem FZ:aO Tryz.prog 17 141 [.tmp 4] (gen [] [(448,none)] [2] Tryz.f17):=bg Tryz.func17 rfl (by kernel_rfl)
theorem A8:aO Tryz.prog 4 20 [.tmp 2] (gen [] [] [] Tryz.f4):=bg Tryz.func4 rfl (by kernel_rfl)
theorem vY:aO Tryz.prog 5 43 [.tmp 4] (gen [] [] [] Tryz.f5):=bg Tryz.func5 rfl (by kernel_rfl)
end Lp
namespace Lp
open Go Go.Proofs
open Nat (lt_or_ge reduceAdd reduceLeDiff reduceMul reduceSub)
open Int (reduceLE reduceToNat)
theorem L6 (x:Stp):fC 1 0 [⟨122,3,[encS x],true,1⟩] (.bR 0 1 0 0)=.addr (encS x):=rfl
def qN (v:Vl) (x:Stp):PV:=if (jD v x).2=0 then .bP [aB (jD v x).1,.int .i64 0] else .bP [.sl 0 [] (some true),.int .i64 (jD v x).2]
theorem RP (v:Vl) (x:Stp) (hr:Rt v) (hl:v.length≤1000000) (hn:0≤x.n):ai Tryz.prog 116 [aB v,encS x] [] (qN v x) []:=by
 refine Dj.r_ (T:=aP Tryz.prog [(38,aS),(66,cK)]) 0 hD (aj (af jl (af qM ah))) aU (by decide) (by decide) fun Q hQ=>?_
 have ho:=hr.one
 obtain ⟨p1,_,_,_⟩:=pG hr
 obtain ⟨n,r,hv,_⟩:=eP hr.name hr.one.ne
 have hv0:v[0]?=some n:=by rw [hv];rfl
 have hkd:jC v=n.kind:=by rw [hv];rfl
 have zn:(0≤x.n)=True:=eq_true hn
 (conv=>arg 4;cbv);simp(maxSteps:=400000)only[↓au,av,BEq.rfl,reduceIte,reduceCtorEq,Nat.reduceLT,reduceAdd,reduceSub,reduceMul,Nat.reduceBEq,reduceLeDiff,reduceToNat,reduceLE,hQ]
 refine aT _ (Weak.freeze 1 0 (Nat.zero_le _) _) ?_
 cases hx:x.part with
 | true=>
  by_cases hk:n.kind=5
  · rcases lt_or_ge x.n.toNat (ax v).length with h | h
    · have hgi:=List.getElem?_eq_getElem h
      generalize (ax v)[x.n.toNat]=w at hgi
      have hlt:(((ax v).length:Int)≤x.n)=False:=eq_false (by omega)
      have hres:qN v x=.bP [aB w,.int .i64 0]:=by simp [qN,jD,hx,hkd,hk,hgi]
      simp(maxSteps:=400000)only[↓au,av,BEq.rfl,reduceIte,reduceCtorEq,Nat.reduceLT,reduceAdd,reduceSub,reduceMul,Nat.reduceBEq,reduceLeDiff,reduceToNat,reduceLE,hQ,L6,hx,hv0,hk,↓aS,hlt,zn,hgi,hres]
      exact ⟨ho,hl⟩
    · have hlt:(((ax v).length:Int)≤x.n)=True:=eq_true (by omega)
      have hres:qN v x=.bP [.sl 0 [] (some true),.int .i64 6]:=by simp [qN,jD,hx,hkd,hk,List.getElem?_eq_none h]
      simp(maxSteps:=400000)only[↓au,av,BEq.rfl,reduceIte,reduceCtorEq,Nat.reduceLT,reduceAdd,reduceSub,reduceMul,Nat.reduceBEq,reduceLeDiff,reduceToNat,reduceLE,hQ,L6,hx,hv0,hk,↓aS,hlt,hres]
      exact ⟨ho,hl⟩
  · have hk':=eq_false hk
    have hres:qN v x=.bP [.sl 0 [] (some true),.int .i64 5]:=by simp [qN,jD,hx,hkd,hk]
    simp(maxSteps:=400000)only[↓au,av,BEq.rfl,reduceIte,reduceCtorEq,Nat.reduceLT,reduceAdd,reduceSub,reduceMul,Nat.reduceBEq,reduceLeDiff,reduceToNat,reduceLE,hQ,L6,hx,hv0,hk',hres]
 | false=>
  by_cases hk:n.kind=6
  · cases hf:qZ v x.name with
    | some w=>
     have h1:fK v x.name=w:=by simp [fK,hf]
     have h2:tV v x.name=true:=by simp [tV,hf]
     have hres:qN v x=.bP [aB w,.int .i64 0]:=by simp [qN,jD,hx,hkd,hk,hf]
     simp(maxSteps:=400000)only[↓au,av,BEq.rfl,reduceIte,reduceCtorEq,Nat.reduceLT,reduceAdd,reduceSub,reduceMul,Nat.reduceBEq,reduceLeDiff,reduceToNat,reduceLE,hQ,L6,hx,hv0,hk,↓cK,dX,h1,h2,hres]
     exact ⟨hr,hl⟩
    | none=>
     have h2:tV v x.name=false:=by simp [tV,hf]
     have hres:qN v x=.bP [.sl 0 [] (some true),.int .i64 6]:=by simp [qN,jD,hx,hkd,hk,hf]
     simp(maxSteps:=400000)only[↓au,av,BEq.rfl,reduceIte,reduceCtorEq,Nat.reduceLT,reduceAdd,reduceSub,reduceMul,Nat.reduceBEq,reduceLeDiff,reduceToNat,reduceLE,hQ,L6,hx,hv0,hk,↓cK,dX,h2,hres]
     exact ⟨hr,hl⟩
  · have hk':=eq_false hk
    have hres:qN v x=.bP [.sl 0 [] (some true),.int .i64 5]:=by simp [qN,jD,hx,hkd,hk]
    simp(maxSteps:=400000)only[↓au,av,BEq.rfl,reduceIte,reduceCtorEq,Nat.reduceLT,reduceAdd,reduceSub,reduceMul,Nat.reduceBEq,reduceLeDiff,reduceToNat,reduceLE,hQ,L6,hx,hv0,hk',hres]
theorem Yl {v:Vl}{x:Stp}(h:¬ (jD v x).2=0):(jD v x).1=[]:=by
 revert h
 unfold jD
 split
 · split
   · split <;> simp
   · simp
 · split
   · split <;> simp
   · simp
theorem RQ (v:Vl) (x:Stp):jy (qN v x) (.bP [aB (jD v x).1,.int .i64 (jD v x).2]):=by
 unfold qN
 split
 · rename_i h;rw [h];exact .refl _
 · rename_i h;rw [Yl h];exact MZ (.inr rfl) (ji 0 6) (.refl _)
theorem RS {v:Vl}{x:Stp}(hr:Rt v) (h:(jD v x).2=0):(jD v x).1 ∈ ax v:=by
 revert h
 unfold jD
 split
 · split
   · split
     · rename_i w hw;intro _;exact List.mem_of_getElem? hw
     · intro h;cases h
   · intro h;cases h
 · split
   · split
     · rename_i hk _ w hw
       intro _
       rw [qZ,if_pos hk] at hw
       have:=pK hw
       rw [(Di hr hk).2.2.2]
       exact List.mem_map.2 ⟨_,this,rfl⟩
     · intro h;cases h
   · intro h;cases h
def uj:dJ:=fun args objs K=>match args with
 | [a0,a1]=>fU aB a0 (HK.mk:HK fun v=>fU encS a1 (HK.mk:HK fun x=>(Rt v)∧(v.length≤1000000)∧(0≤x.n)∧K (.bP [aB (jD v x).1,.int .i64 (jD v x).2]) objs 0))
 | _=>False
theorem OD:aD Tryz.prog 116 (uj):=by
 intro args objs K h
 unfold uj at h
 split at h
 · rename_i a0 a1
   obtain ⟨v,rfl,x,rfl,h1,h2,h3,hk⟩:=h
   exact ⟨_,_,_,.pure _ rfl ((RP v x h1 h2 h3).res (RQ v x)),hk⟩
 · exact h.elim
def A9 (p:List Stp) (v:Vl):PV:=if (nA p v).2=0 then .bP [aB (nA p v).1,.int .i64 0] else .bP [.sl 0 [] (some true),.int .i64 (nA p v).2]
theorem Dl:∀ (p:List Stp) (v:Vl),¬ (nA p v).2=0→(nA p v).1=[]
 | [],_,h=>absurd rfl h
 | x::p,v,h=>by
  rw [nA] at h ⊢
  split
  · rename_i h0;rw [if_pos h0] at h;exact Dl p _ h
  · rfl
theorem OE (p:List Stp) (v:Vl):jy (A9 p v) (.bP [aB (nA p v).1,.int .i64 (nA p v).2]):=by
 unfold A9
 split
 · rename_i h;rw [h];exact .refl _
 · rename_i h;rw [Dl p v h];exact MZ (.inr rfl) (ji 0 6) (.refl _)
theorem U1 (p:List Stp) (v:Vl) (hr:Rt v) (hl:v.length≤1000000) (hpl:p.length≤1000000) (hn:∀ x ∈ p,0≤x.n):ai Tryz.prog 95 [iV p,aB v] [] (A9 p v) []:=by
 refine Ez.r_ (T:=aP Tryz.prog [(116,uj)]) 0 hD (aj (af OD ah)) aU (by decide) (by decide) fun Q hQ=>?_
 (conv=>arg 4;cbv);simp(maxSteps:=400000)only[↓au,av,BEq.rfl,reduceIte,reduceCtorEq,Nat.reduceLT,reduceAdd,reduceSub,reduceMul,Nat.reduceBEq,reduceLeDiff,reduceToNat,reduceLE,hQ]
 refine aF (fun m S=>∃ (i:Nat) (w:Vl),i+m=p.length∧Rt w∧w.length≤1000000∧nA p v=nA (p.drop i) w∧S=⟨dz 29 [(0,iV p),(1,aB w),(6,.int .i64 i)],[]⟩) p.length ⟨0,v,by omega,hr,hl,by rw [List.drop_zero],?_⟩ ?_
 · simp only [bG,keepR,reduceAdd,kS,Nat.reduceBEq,List.map_nil]
   rfl
 rintro m S ⟨i,w,him,hw,hwl,hg,rfl⟩
 have zi:(0≤(i:Int))=True:=eq_true (by omega)
 rcases lt_or_ge i p.length with h | h
 · have hlt:((i:Int)<(p.length:Int))=True:=eq_true (by omega)
   have hgi:=List.getElem?_eq_getElem h
   have hx:=hn p[i] (List.getElem_mem h)
   rw [List.drop_eq_getElem_cons h] at hg
   generalize p[i]=x at hgi hx hg
   rw [nA] at hg
   by_cases he:(jD w x).2=0
   · have he':=eq_true he
     rw [if_pos he] at hg
     have hm:=lZ hw (RS hw he)
     simp(maxSteps:=400000)only[↓au,av,BEq.rfl,reduceIte,reduceCtorEq,Nat.reduceLT,reduceAdd,reduceSub,reduceMul,Nat.reduceBEq,reduceLeDiff,reduceToNat,reduceLE,hQ,hlt,zi,hgi,↓uj,dX,he']
     exact ⟨hw,hwl,hx,⟨by omega,by omega⟩,m-1,by omega,i+1,_,by omega,hm.1,by omega,hg,rfl⟩
   · have he':=eq_false he
     rw [if_neg he] at hg
     have hres:A9 p v=.bP [.sl 0 [] (some true),.int .i64 (jD w x).2]:=by unfold A9;rw [hg,if_neg he]
     simp(maxSteps:=400000)only[↓au,av,BEq.rfl,reduceIte,reduceCtorEq,Nat.reduceLT,reduceAdd,reduceSub,reduceMul,Nat.reduceBEq,reduceLeDiff,reduceToNat,reduceLE,hQ,hlt,zi,hgi,↓uj,dX,he',hres]
     exact ⟨hw,hwl,hx⟩
 · have hlt:((i:Int)<(p.length:Int))=False:=eq_false (by omega)
   rw [List.drop_eq_nil_of_le h,nA] at hg
   have hres:A9 p v=.bP [aB w,.int .i64 0]:=by unfold A9;rw [hg,if_pos rfl]
   simp(maxSteps:=400000)only[↓au,av,BEq.rfl,reduceIte,reduceCtorEq,Nat.reduceLT,reduceAdd,reduceSub,reduceMul,Nat.reduceBEq,reduceLeDiff,reduceToNat,reduceLE,hQ,hlt,hres]
def xH:dJ:=fun args objs K=>match args with
 | [a0,a1]=>fU iV a0 (HK.mk:HK fun p=>fU aB a1 (HK.mk:HK fun v=>(Rt v)∧(v.length≤1000000)∧(p.length≤1000000)∧(∀ x ∈ p,0≤x.n)∧K (.bP [aB (nA p v).1,.int .i64 (nA p v).2]) objs 0))
 | _=>False
theorem RU:aD Tryz.prog 95 (xH):=by
 intro args objs K h
 unfold xH at h
 split at h
 · rename_i a0 a1
   obtain ⟨p,rfl,v,rfl,h1,h2,h3,h4,hk⟩:=h
   exact ⟨_,_,_,.pure _ rfl ((U1 p v h1 h2 h3 h4).res (OE p v)),hk⟩
 · exact h.elim
theorem abG (s:List UInt8) (i:Nat) (b:Bool):0≤(gL s i b).1.n:=by
 have hp:∀ a,0≤(l6 s a i).1.n:=fun a=>by
  unfold l6
  split
  · simp
  · split
    · simp
    · rename_i h;simp only [not_or] at h;exact Int.not_lt.1 h.1
 have hp1:∀ a j,0≤(l6 s a j).1.n:=fun a j=>by
  unfold l6
  split
  · simp
  · split
    · simp
    · rename_i h;simp only [not_or] at h;exact Int.not_lt.1 h.1
 unfold gL
 split
 · split
   · simp
   · split
     · simp
     · split
       · exact hp1 _ _
       · simp
 · split
   · simp
   · exact hp1 _ _
theorem aax (s:List UInt8):∀ (f i:Nat) (out:List Stp),(∀ x ∈ out,0≤x.n)→∀ x ∈ (zI s f i out).1,0≤x.n
 | 0,_,_,h=>h
 | f+1,i,out,h=>by
  rw [zI]
  split
  · exact h
  · refine aax s f _ _ fun x hx=>?_
    rcases List.mem_append.1 hx with hx | hx
    · exact h x hx
    · rw [List.mem_singleton.1 hx];exact abG s i _
theorem V8 (s:List UInt8):∀ x ∈ dF s,0≤x.n:=by
 have hb:∀ x ∈ (eG s).1,0≤x.n:=by
  unfold eG
  split
  · intro x hx;cases hx
  · exact aax s 20 0 [] fun x hx=>by cases hx
 intro x hx
 unfold dF iU at hx
 split at hx
 · exact hb x hx
 · split at hx
   · cases hx
   · split at hx
     · cases hx
     · exact hb x hx
def U2 (s:List UInt8) (v:Vl):PV:=if (nA (dF s) v).2=0 then aB (gJ s v) else .sl 0 [] (some true)
theorem U3 (s:List UInt8) (v:Vl) (hs:s.length≤1000000000) (hr:Rt v) (hl:v.length≤1000000):ai Tryz.prog 68 [.str s,aB v] [] (U2 s v) []:=by
 refine EA.a_ (T:=aP Tryz.prog [(96,tL),(95,xH)]) 0 hD (aj (af Nr (af RU ah))) aU (by decide) fun Q hQ=>?_
 have h1:=Ep s
 by_cases he:(nA (dF s) v).2=0
 · have he':=eq_true he
   have hres:U2 s v=aB (nA (dF s) v).1:=by simp [U2,he,gJ]
   (conv=>arg 4;cbv);simp(maxSteps:=400000)only[↓au,av,BEq.rfl,reduceIte,reduceCtorEq,Nat.reduceLT,reduceAdd,reduceSub,reduceMul,Nat.reduceBEq,reduceLeDiff,reduceToNat,reduceLE,hQ,↓tL,↓xH,dX,he',hres]
   exact ⟨hs,hr,hl,by omega,V8 s⟩
 · have he':=eq_false he
   have hres:U2 s v=.sl 0 [] (some true):=by simp [U2,he]
   (conv=>arg 4;cbv);simp(maxSteps:=400000)only[↓au,av,BEq.rfl,reduceIte,reduceCtorEq,Nat.reduceLT,reduceAdd,reduceSub,reduceMul,Nat.reduceBEq,reduceLeDiff,reduceToNat,reduceLE,hQ,↓tL,↓xH,dX,he',hres]
   exact ⟨hs,hr,hl,by omega,V8 s⟩
theorem U4 (s:List UInt8) (v:Vl):jy (U2 s v) (aB (gJ s v)):=by
 unfold U2
 split
 · exact .refl _
 · rename_i h
   have:gJ s v=[]:=Dl _ _ h
   rw [this];exact ji 0 6
def qO:dJ:=fun args objs K=>match args with
 | [.str s,a1]=>fU aB a1 (HK.mk:HK fun v=>(s.length≤1000000000)∧(Rt v)∧(v.length≤1000000)∧K (aB (gJ s v)) objs 0)
 | _=>False
theorem Fv:aD Tryz.prog 68 (qO):=by
 intro args objs K h
 unfold qO at h
 split at h
 · rename_i s a1
   obtain ⟨v,rfl,h1,h2,h3,hk⟩:=h
   exact ⟨_,_,_,.pure _ rfl ((U3 s v h1 h2 h3).res (U4 s v)),hk⟩
 · exact h.elim
theorem RV (s:List UInt8) (l:List Vl) (hs:s.length≤1000000000) (hl:l.length≤1000000) (hr:∀ v ∈ l,Rt v∧v.length≤1000000):ai Tryz.prog 44 [.str s,dD l] [] (dD (l.map (gJ s))) []:=by
 refine Dk.a_ (T:=aP Tryz.prog [(68,qO)]) 1 hD (aj (af Fv ah)) aU (by decide) fun Q hQ=>?_
 (conv=>arg 4;cbv);simp(maxSteps:=400000)only[↓au,av,BEq.rfl,reduceIte,reduceCtorEq,Nat.reduceLT,reduceAdd,reduceSub,reduceMul,Nat.reduceBEq,reduceLeDiff,reduceToNat,reduceLE,hQ]
 refine aF (fun m S=>∃ i ver:Nat,i+m=l.length∧S=⟨dz 24 [(0,.str s),(1,dD l),(5,.bA 0 ver),(6,.int .i64 i)],[⟨28,1,((l.take i).map (gJ s)).map aB,true,ver⟩]⟩) l.length ⟨0,1,by omega,?_⟩ ?_
 · simp only [bG,keepR,reduceAdd,kS,Nat.reduceBEq,List.map_nil]
   rfl
 rintro m S ⟨i,ver,him,rfl⟩
 have zi:(0≤(i:Int))=True:=eq_true (by omega)
 rcases lt_or_ge i l.length with h | h
 · have hlt:((i:Int)<(l.length:Int))=True:=eq_true (by omega)
   have hgi:=List.getElem?_eq_getElem h
   have hp:=hr _ (List.getElem_mem h)
   generalize l[i]=p at hgi hp
   have htk:(l.take (i+1)).map (gJ s)=(l.take i).map (gJ s)++[gJ s p]:=by rw [List.take_add_one,hgi];simp
   have ht3:(l.take i).length=i:=by rw [List.length_take];omega
   simp(maxSteps:=400000)only[↓au,av,BEq.rfl,reduceIte,reduceCtorEq,Nat.reduceLT,reduceAdd,reduceSub,reduceMul,Nat.reduceBEq,reduceLeDiff,reduceToNat,reduceLE,hQ,hlt,zi,hgi,↓qO]
   exact ⟨hs,hp.1,hp.2,by rw [ht3];omega,by rw [ht3];omega,⟨by omega,by omega⟩,m-1,by omega,i+1,ver+1,by omega,by rw [htk,List.map_append,Int.natCast_add,Int.natCast_one];rfl⟩
 · have hlt:((i:Int)<(l.length:Int))=False:=eq_false (by omega)
   have htk:l.take i=l:=List.take_of_length_le h
   simp(maxSteps:=400000)only[↓au,av,BEq.rfl,reduceIte,reduceCtorEq,Nat.reduceLT,reduceAdd,reduceSub,reduceMul,Nat.reduceBEq,reduceLeDiff,reduceToNat,reduceLE,hQ,hlt,htk,RA]
def p_:dJ:=fun args objs K=>match args with
 | [.str s,a1]=>fU dD a1 (HK.mk:HK fun l=>(s.length≤1000000000)∧(l.length≤1000000)∧(∀ v ∈ l,Rt v∧v.length≤1000000)∧K (dD (l.map (gJ s))) objs 0)
 | _=>False
theorem Dm:aD Tryz.prog 44 (p_):=by
 intro args objs K h
 unfold p_ at h
 split at h
 · rename_i s a1
   obtain ⟨l,rfl,h1,h2,h3,hk⟩:=h
   exact ⟨_,_,_,.pure _ rfl (RV s l h1 h2 h3),hk⟩
 · exact h.elim
end Lp
namespace Lp
open Go Go.Proofs
open List (all_eq_false all_eq_true getElem_mem map_nil)
open Nat (lt_or_ge reduceAdd reduceLeDiff reduceMul reduceSub)
open Int (reduceLE reduceToNat)
structure jN (v:Vl):Prop where
 rt:Rt v
 len:v.length≤1000000
 nd:∀ n ∈ v,n.s.length≤1000000∧n.name.length≤4611686018427387904
structure vZ (t:aY):Prop where
 Bb:nH t
 ss:∀ n ∈ t,n.s.length≤1000000000
theorem vZ.part {n:fE}{r:aY}(h:vZ (n::r)):∀ p ∈ aC (n::r),vZ p∧p.length≤r.length:=by
 intro p hp
 have h1:=h.Bb.part p hp
 refine ⟨⟨h1.1,?_⟩,h1.2⟩
 by_cases hk:n.kind=1
 · simp only [aC,hk,if_true] at hp;cases hp
 simp only [aC,hk,if_false] at hp
 obtain ⟨_,_,ps,h3,h4,_⟩:=h.Bb.rt.parts
 rw [fo h3] at hp
 obtain ⟨q,hq,rfl⟩:=List.mem_map.1 hp
 have hr:∀ x ∈ q,x ∈ r:=fun x hx=>by rw [← h4];exact List.mem_flatten.2 ⟨q,hq,hx⟩
 intro x hx
 cases q with
 | nil=>cases hx
 | cons y z=>
  rcases List.mem_cons.1 hx with rfl | hx
  · exact h.ss y (List.mem_cons_of_mem _ (hr y (List.mem_cons_self ..)))
  · exact h.ss x (List.mem_cons_of_mem _ (hr x (List.mem_cons_of_mem _ hx)))
theorem jN.part {v:Vl}(h:jN v):∀ p ∈ ax v,jN p∧p.length<v.length:=by
 intro p hp
 have h1:=lZ h.rt hp
 have hl:=h.len
 exact ⟨⟨h1.1,by omega,U0 h.rt (q:=fun n=>n.s.length≤1000000∧n.name.length≤4611686018427387904) (fun n h=>⟨h.1,by simp⟩) h.nd p hp⟩,h1.2⟩
theorem xI {v w:Vl}{nm:List UInt8}(hr:Rt v) (h:qZ v nm=some w):w ∈ ax v:=by
 unfold qZ at h
 split at h
 · rename_i hk
   rw [(Di hr hk).2.2.2]
   exact List.mem_map.2 ⟨_,pK h,rfl⟩
 · cases h
theorem jN.ok2 {v:Vl}(h:jN v):Ok2 v:=by
 refine ⟨h.rt.one,h.len,fun n hn hk=>?_⟩
 obtain ⟨i,hi,rfl⟩:=List.mem_iff_getElem.1 hn
 have hp:=(h.rt.good i v[i] (v.drop (i+1)) (List.drop_eq_getElem_cons hi)).1
 simp only [bD,hk,Int.reduceEq,or_self,if_false,if_true,qQ,Bool.and_eq_true,decide_eq_true_eq] at hp
 obtain ⟨⟨⟨⟨⟨⟨_,h2⟩,h3⟩,h4⟩,h5⟩,_⟩,_⟩:=hp
 exact ⟨by omega,h2,h4,h5⟩
def dO (f:Nat):dJ:=fun args objs K=>match args with
 | [a0,a1]=>fU aG a0 (HK.mk:HK fun t=>fU aB a1 (HK.mk:HK fun v=>(t.length≤f)∧(vZ t)∧(jN v)∧K (.bool (inT t v)) objs 0))
 | _=>False
def kG (f:Nat):dJ:=fun args objs K=>match args with
 | [a0,a1]=>fU aG a0 (HK.mk:HK fun t=>fU dD a1 (HK.mk:HK fun l=>(t.length≤f)∧(vZ t)∧(l.length≤1000000)∧(∀ v ∈ l,jN v)∧K (.bool (l.all (inT t))) objs 0))
 | _=>False
theorem U5 (g:Vl→Bool) (o:Option (List UInt8)) (x:Vl) (l:List Vl):nI g o (x::l)=(OB g x && (match o with | none=>true | some a=>!(Op.bytesLess (Jl (fK x Dh)) a || decide (Jl (fK x Dh)=a))) && nI g (some (Jl (fK x Dh))) l):=by cases o <;> rfl
theorem U6 (g:Vl→Bool) (s:List UInt8) (o:Option Vl) (x:Vl) (l:List Vl):oO g s o (x::l)=(UY g s x && (match o with | none=>true | some a=>decide (KF a (gJ s ((ax x).headD []))<0)) && oO g s (some (gJ s ((ax x).headD []))) l):=by cases o <;> rfl
theorem Dn:∀ (p:List Stp) (v:Vl),jN v→(nA p v).2=0→jN (nA p v).1
 | [],_,h,_=>h
 | x::p,v,h,he=>by
  rw [nA] at he ⊢
  split
  · rename_i h0
    rw [if_pos h0] at he
    exact Dn p _ (h.part _ (RS h.rt h0)).1 he
  · rename_i h0;rw [if_neg h0] at he;exact absurd he h0
theorem aay {s:List UInt8}{v:Vl}(h:jN v):(gJ s v).length≤1000000:=by
 by_cases he:(nA (dF s) v).2=0
 · exact (Dn _ _ h he).len
 · have:gJ s v=[]:=Dl _ _ he
   rw [this];exact Nat.zero_le _
theorem U7 {v:Vl}{n:Nd}{r:Vl}(hr:Rt v) (hv:v=n::r):((ax v).length:Int)=n.many:=by
 subst hv
 obtain ⟨h1,h2,ps,h3,h4,h5,h6,h7⟩:=hr.parts
 obtain ⟨q1,q2⟩:=cZ h3
 have h8:=bB _ _ _ h3
 simp only [ax,q1,List.length_map]
 omega
theorem L8 (p:List Stp) (t:aY):lC p (Y.gU t)=lC p t:=by
 cases t with
 | nil=>rfl
 | cons n r=>cases p <;> rfl
theorem Jo (nm:List UInt8):∀ (o:Nat) (qs:List aY) (o':Nat) (q:aY),q9 nm o qs=some (o',q)→∃ j:Nat,qs[j]?=some q∧Y.nameOf q=nm
 | _,[],_,_,h=>by cases h
 | o,a::qs,o',q,h=>by
  rw [q9] at h
  split at h
  · rename_i hn;cases h;exact ⟨0,rfl,hn⟩
  · obtain ⟨j,h1,h2⟩:=Jo nm _ qs o' q h
    exact ⟨j+1,by simpa using h1,h2⟩
theorem RX:∀ (p:List Stp) (t:aY) (v:Vl),Dw bC dF t→Rt v→inT t v=true→(lC p t).isSome=true→(nA p v).2=0
 | [],_,_,_,_,_,_=>rfl
 | s::p,[],_,ht,_,_,_=>absurd rfl ht.one.ne
 | s::p,x::r,v,ht,hv,hi,hl=>by
  rw [lC] at hl
  split at hl
  · rename_i hk
    split at hl
    · rename_i o q hf
      obtain ⟨_,_,ps,h3,_⟩:=ht.parts
      rw [fo h3] at hf
      obtain ⟨j,h1,h2⟩:=Jo _ _ _ _ _ hf
      have hN:bF (x::r)=ps.map Y.nameOf:=by simp only [bF,hk.1,if_true,fo h3]
      have hP:aC (x::r)=ps.map Y.gU:=by simp only [aC,hk.1,fo h3];rfl
      rw [OC ht] at hi
      simp only [hk.1,Int.reduceEq,if_false,if_true,Bool.and_eq_true] at hi
      have hz:=all_eq_true.1 hi.1.2 (s.name,Y.gU q) (List.mem_iff_getElem?.2 ⟨j,by rw [hN,hP,List.getElem?_zip_eq_some];simp [h1,h2]⟩)
      simp only at hz
      cases hf':qZ v s.name with
      | none=>rw [hf'] at hz;cases hz
      | some w=>
       rw [hf'] at hz
       have hk6:jC v=6:=by simpa using hi.1.1
       have hpr:jD v s=(w,0):=by simp [jD,hk.2,hk6,hf']
       rw [nA,hpr,if_pos rfl]
       have hm:=xI hv hf'
       refine RX p (Y.gU q) w (ht.part _ (by rw [hP];exact List.mem_map.2 ⟨q,List.mem_of_getElem? h1,rfl⟩)).1 (lZ hv hm).1 hz ?_
       rw [L8]
       cases hq:lC p q with
       | none=>rw [hq] at hl;cases hl
       | some j=>rfl
    · cases hl
  · cases hl
section
variable {f:Nat}(hin:aD Tryz.prog 17 (dO f))
include hin
theorem U8 (t:aY) (l:List Vl) (ht:t.length≤f) (hw:vZ t) (hl:l.length≤1000000) (hv:∀ v ∈ l,jN v):ai Tryz.prog 40 [aG t,dD l] [] (.bool (l.all (inT t))) []:=by
 refine EB.a_ (T:=aP Tryz.prog [(17,dO f)]) 0 hD (aj (af hin ah)) aU (by decide) fun Q hQ=>?_
 (conv=>arg 4;cbv);simp(maxSteps:=400000)only[↓au,av,BEq.rfl,reduceIte,reduceCtorEq,Nat.reduceLT,reduceAdd,reduceSub,reduceMul,Nat.reduceBEq,reduceLeDiff,reduceToNat,reduceLE,hQ]
 refine aF (fun m S=>∃ i:Nat,i+m=l.length∧(∀ (j:Nat) w,j<i→l[j]?=some w→inT t w=true)∧S=⟨dz 19 [(0,aG t),(1,dD l),(5,.int .i64 i)],[]⟩) l.length ⟨0,by omega,fun j x h=>absurd h (Nat.not_lt_zero j),?_⟩ ?_
 · simp only [bG,keepR,reduceAdd,kS,Nat.reduceBEq,map_nil]
   rfl
 rintro m S ⟨i,him,hb,rfl⟩
 have zi:(0≤(i:Int))=True:=eq_true (by omega)
 rcases lt_or_ge i l.length with h | h
 · have hlt:((i:Int)<(l.length:Int))=True:=eq_true (by omega)
   have hgi:=List.getElem?_eq_getElem h
   have hp:=hv _ (getElem_mem h)
   generalize l[i]=p at hgi hp
   cases hx:inT t p with
   | false=>
    have hr:l.all (inT t)=false:=by rw [all_eq_false];exact ⟨p,List.mem_of_getElem? hgi,by simp [hx]⟩
    simp(maxSteps:=400000)only[↓au,av,BEq.rfl,reduceIte,reduceCtorEq,Nat.reduceLT,reduceAdd,reduceSub,reduceMul,Nat.reduceBEq,reduceLeDiff,reduceToNat,reduceLE,hQ,hlt,zi,hgi,↓dO,hx,hr]
    exact ⟨ht,hw,hp⟩
   | true=>
    simp(maxSteps:=400000)only[↓au,av,BEq.rfl,reduceIte,reduceCtorEq,Nat.reduceLT,reduceAdd,reduceSub,reduceMul,Nat.reduceBEq,reduceLeDiff,reduceToNat,reduceLE,hQ,hlt,zi,hgi,↓dO,hx]
    refine ⟨ht,hw,hp,⟨by omega,by omega⟩,m-1,by omega,i+1,by omega,fun j y hj hy=>?_,rfl⟩
    rcases lt_or_ge j i with g | g
    · exact hb j y g hy
    · have:j=i:=by omega
      subst this
      rw [hgi] at hy;cases hy;exact hx
 · have hlt:((i:Int)<(l.length:Int))=False:=eq_false (by omega)
   have hr:l.all (inT t)=true:=by
    rw [all_eq_true];intro x hx
    obtain ⟨j,hj⟩:=List.mem_iff_getElem?.1 hx
    have:=(List.getElem?_eq_some_iff.1 hj).1
    exact hb j x (by omega) hj
   simp(maxSteps:=400000)only[↓au,av,BEq.rfl,reduceIte,reduceCtorEq,Nat.reduceLT,reduceAdd,reduceSub,reduceMul,Nat.reduceBEq,reduceLeDiff,reduceToNat,reduceLE,hQ,hlt,hr]
theorem RY:aD Tryz.prog 40 (kG f):=by
 have abH:aD Tryz.prog 40 (kG f):=by
  intro args objs K h
  unfold kG at h
  split at h
  · rename_i a0 a1
    obtain ⟨t,rfl,l,rfl,h1,h2,h3,h4,hk⟩:=h
    exact ⟨_,_,_,.pure _ rfl (U8 hin t l h1 h2 h3 h4),hk⟩
  · exact h.elim
 exact abH
theorem KH (n:fE) (r:aY) (v:Vl) (ht:r.length≤f) (hw:vZ (n::r)) (hk:n.kind=2) (hv:jN v) :
  ai Tryz.prog 39 [aG (n::r),aB v] [] (.bool (ni inT v (bF (n::r)) (aC (n::r)) && (n.n==1 || xD v==(bF (n::r)).length))) []:=by
 refine yZ.a_ (T:=aP Tryz.prog [(24,vJ),(20,dY),(66,cK),(17,dO f)]) 0 hD (aj (af Kw (af zD (af qM (af hin ah))))) aU (by decide) fun Q hQ=>?_
 have hN:=hw.Bb.rt.names hk
 have hnl:=(fZ.1 hN.1).1
 have hwl:=Jj hw.Bb
 have hpt:=hw.part
 have ho:=hw.Bb.rt.one
 have hl:=hw.Bb.len
 have FJ:=hv.rt
 have hvl:=hv.len
 have hvp:=hv.part
 have hg0:(n::r)[0]?=some n:=rfl
 obtain ⟨n0,r0,hv0,_⟩:=eP FJ.name FJ.one.ne
 have hm0:v[0]?=some n0:=by rw [hv0];rfl
 have hmv:xD v=n0.many:=by rw [hv0];rfl
 generalize hne:bF (n::r)=names at *
 generalize hte:aC (n::r)=ts at *
 generalize hT:n::r=T at *
 (conv=>arg 4;cbv);simp(maxSteps:=400000)only[↓au,av,BEq.rfl,reduceIte,reduceCtorEq,Nat.reduceLT,reduceAdd,reduceSub,reduceMul,Nat.reduceBEq,reduceLeDiff,reduceToNat,reduceLE,hQ,↓vJ,↓dY,hne,hte]
 refine ⟨ho,by omega,ho,by omega,?_⟩
 refine aF (fun m S=>∃ i:Nat,i+m=names.length∧(∀ (j:Nat) nm t,j<i→names[j]?=some nm→ts[j]?=some t→∃ w,qZ v nm=some w∧inT t w=true)∧S=⟨dz 54 [(0,aG T),(1,aB v),(5,dQ names),(6,kT ts),(7,.int .i64 i)],[]⟩) names.length ⟨0,by omega,fun j _ _ h=>absurd h (Nat.not_lt_zero j),?_⟩ ?_
 · simp only [bG,keepR,reduceAdd,kS,Nat.reduceBEq,map_nil]
   rfl
 rintro m S ⟨i,him,hb,rfl⟩
 have zi:(0≤(i:Int))=True:=eq_true (by omega)
 rcases lt_or_ge i names.length with h | h
 · have hlt:((i:Int)<(names.length:Int))=True:=eq_true (by omega)
   have hgi:=List.getElem?_eq_getElem h
   have h':i<ts.length:=by omega
   have hgt:=List.getElem?_eq_getElem h'
   have hpi:=hpt _ (getElem_mem h')
   generalize names[i]=nm at hgi
   generalize ts[i]=t at hgt hpi
   have hz:(nm,t) ∈ names.zip ts:=List.mem_iff_getElem?.2 ⟨i,by rw [List.getElem?_zip_eq_some];exact ⟨hgi,hgt⟩⟩
   cases hf:qZ v nm with
   | none=>
    have h2:tV v nm=false:=by simp [tV,hf]
    have hr:ni inT v names ts=false:=by
     unfold ni;rw [all_eq_false];exact ⟨_,hz,by simp [hf]⟩
    simp(maxSteps:=400000)only[↓au,av,BEq.rfl,reduceIte,reduceCtorEq,Nat.reduceLT,reduceAdd,reduceSub,reduceMul,Nat.reduceBEq,reduceLeDiff,reduceToNat,reduceLE,hQ,hlt,zi,hgi,↓cK,dX,h2,hr]
    repeat' (first | omega | exact FJ | exact rfl | refine ⟨?_,?_⟩)
   | some w=>
    have h2:tV v nm=true:=by simp [tV,hf]
    have h3:fK v nm=w:=by simp [fK,hf]
    have hwv:=hvp w (xI FJ hf)
    cases hx:inT t w with
    | false=>
     have hr:ni inT v names ts=false:=by
      unfold ni;rw [all_eq_false];exact ⟨_,hz,by simp [hf,hx]⟩
     simp(maxSteps:=400000)only[↓au,av,BEq.rfl,reduceIte,reduceCtorEq,Nat.reduceLT,reduceAdd,reduceSub,reduceMul,Nat.reduceBEq,reduceLeDiff,reduceToNat,reduceLE,hQ,hlt,zi,hgi,hgt,↓cK,dX,h2,h3,↓dO,hx,hr]
     repeat' (first | omega | exact FJ | exact hpi.1 | exact hwv.1 | exact rfl | refine ⟨?_,?_⟩)
    | true=>
     simp(maxSteps:=400000)only[↓au,av,BEq.rfl,reduceIte,reduceCtorEq,Nat.reduceLT,reduceAdd,reduceSub,reduceMul,Nat.reduceBEq,reduceLeDiff,reduceToNat,reduceLE,hQ,hlt,zi,hgi,hgt,↓cK,dX,h2,h3,↓dO,hx]
     refine ⟨FJ,hvl,by omega,hpi.1,hwv.1,⟨by omega,by omega⟩,m-1,by omega,i+1,by omega,fun j a b hj ha hb'=>?_,rfl⟩
     rcases lt_or_ge j i with g | g
     · exact hb j a b g ha hb'
     · have:j=i:=by omega
       subst this
       rw [hgi] at ha;cases ha
       rw [hgt] at hb';cases hb'
       exact ⟨w,hf,hx⟩
 · have hlt:((i:Int)<(names.length:Int))=False:=eq_false (by omega)
   have hr:ni inT v names ts=true:=by
    unfold ni;rw [all_eq_true];intro x hx
    obtain ⟨j,hj⟩:=List.mem_iff_getElem?.1 hx
    rw [List.getElem?_zip_eq_some] at hj
    have:=(List.getElem?_eq_some_iff.1 hj.1).1
    obtain ⟨w,h1,h2⟩:=hb j x.1 x.2 (by omega) hj.1 hj.2
    rw [h1];exact h2
   rw [hr,hmv] at hQ
   by_cases e1:n.n=1
   · have JI:=eq_true e1
     simp(maxSteps:=400000)only[↓au,av,BEq.rfl,reduceIte,reduceCtorEq,Nat.reduceLT,reduceAdd,reduceSub,reduceMul,Nat.reduceBEq,reduceLeDiff,reduceToNat,reduceLE,hQ,hlt,hg0,JI]
     simp [e1]
   · have JI:=eq_false e1
     simp(maxSteps:=400000)only[↓au,av,BEq.rfl,reduceIte,reduceCtorEq,Nat.reduceLT,reduceAdd,reduceSub,reduceMul,Nat.reduceBEq,reduceLeDiff,reduceToNat,reduceLE,hQ,hlt,hg0,hm0,JI]
     show (decide (n.n=1) || decide (n0.many=names.length))=_
     rw [decide_eq_false e1];rfl
theorem Jp (t:aY) (l:List Vl) (ht:t.length≤f) (hw:vZ t) (hl:l.length≤1000000) (hv:∀ v ∈ l,jN v):ai Tryz.prog 41 [aG t,dD l] [] (.bool (nI (inT t) none l)) []:=by
 refine xG.a_ (T:=aP Tryz.prog [(66,cK),(17,dO f)]) 0 hD (aj (af qM (af hin ah))) aU (by decide) fun Q hQ=>?_
 (conv=>arg 4;cbv);simp(maxSteps:=400000)only[↓au,av,BEq.rfl,reduceIte,reduceCtorEq,Nat.reduceLT,reduceAdd,reduceSub,reduceMul,Nat.reduceBEq,reduceLeDiff,reduceToNat,reduceLE,hQ]
 refine aF (fun m S=>∃ (i:Nat) (last:List UInt8) (o:Option (List UInt8)),i+m=l.length∧(i=0→o=none)∧(0<i→o=some last)∧nI (inT t) none l=nI (inT t) o (l.drop i)∧S=⟨dz 78 [(0,aG t),(1,dD l),(5,.str last),(6,.int .i64 i)],[]⟩) l.length ⟨0,[],none,by omega,fun _=>rfl,fun h=>absurd h (Nat.lt_irrefl 0),by rw [List.drop_zero],?_⟩ ?_
 · simp only [bG,keepR,reduceAdd,kS,Nat.reduceBEq,map_nil]
   rfl
 rintro m S ⟨i,last,o,him,ho0,ho1,hb,rfl⟩
 have zi:(0≤(i:Int))=True:=eq_true (by omega)
 rcases lt_or_ge i l.length with h | h
 rotate_left 1
 · have hlt:((i:Int)<(l.length:Int))=False:=eq_false (by omega)
   rw [List.drop_eq_nil_of_le h] at hb
   have hr:nI (inT t) none l=true:=by rw [hb];cases o <;> rfl
   simp(maxSteps:=400000)only[↓au,av,BEq.rfl,reduceIte,reduceCtorEq,Nat.reduceLT,reduceAdd,reduceSub,reduceMul,Nat.reduceBEq,reduceLeDiff,reduceToNat,reduceLE,hQ,hlt,hr]
 have hlt:((i:Int)<(l.length:Int))=True:=eq_true (by omega)
 have hgi:=List.getElem?_eq_getElem h
 have hp:=hv _ (getElem_mem h)
 rw [List.drop_eq_getElem_cons h] at hb
 generalize l[i]=x at hgi hp hb
 have L9:=hp.rt
 have hxl:=hp.len
 have hxp:=hp.part
 obtain ⟨n0,r0,hv0,_⟩:=eP L9.name L9.one.ne
 have hm0:x[0]?=some n0:=by rw [hv0];rfl
 have hmv:xD x=n0.many:=by rw [hv0];rfl
 rw [U5] at hb
 cases hf:qZ x Dh with
 | none=>
  have h2:tV x Dh=false:=by simp [tV,hf]
  have hr:nI (inT t) none l=false:=by rw [hb];simp [OB,hf]
  unfold Dh at h2
  simp(maxSteps:=400000)only[↓au,av,BEq.rfl,reduceIte,reduceCtorEq,Nat.reduceLT,reduceAdd,reduceSub,reduceMul,Nat.reduceBEq,reduceLeDiff,reduceToNat,reduceLE,hQ,hlt,zi,hgi,↓cK,dX,h2,hr]
  repeat' (first | omega | exact L9 | refine ⟨?_,?_⟩)
 | some k=>
  have h2:tV x Dh=true:=by simp [tV,hf]
  have h3:fK x Dh=k:=by simp [fK,hf]
  have hkv:=hxp k (xI L9 hf)
  obtain ⟨k0,kr,hk0,_⟩:=eP hkv.1.rt.name hkv.1.rt.one.ne
  have hk1:k[0]?=some k0:=by rw [hk0];rfl
  have hkk:jC k=k0.kind:=by rw [hk0];rfl
  have hkt:Jl k=k0.s:=by rw [hk0];rfl
  rw [h3,hkt] at hb
  cases hg:qZ x A7 with
  | none=>
   have g2:tV x A7=false:=by simp [tV,hg]
   have hr:nI (inT t) none l=false:=by rw [hb];simp [OB,hf,hg]
   unfold Dh at h2 h3
   unfold A7 at g2
   simp(maxSteps:=400000)only[↓au,av,BEq.rfl,reduceIte,reduceCtorEq,Nat.reduceLT,reduceAdd,reduceSub,reduceMul,Nat.reduceBEq,reduceLeDiff,reduceToNat,reduceLE,hQ,hlt,zi,hgi,↓cK,dX,h2,h3,g2,hr]
   repeat' (first | omega | exact L9 | refine ⟨?_,?_⟩)
  | some w=>
   have g2:tV x A7=true:=by simp [tV,hg]
   have g3:fK x A7=w:=by simp [fK,hg]
   have hwv:=hxp w (xI L9 hg)
   unfold Dh at h2 h3
   unfold A7 at g2 g3
   by_cases e1:n0.many=2
   rotate_left 1
   · have JI:=eq_false e1
     have hr:nI (inT t) none l=false:=by rw [hb];simp [OB,hf,hg,hmv,e1]
     simp(maxSteps:=400000)only[↓au,av,BEq.rfl,reduceIte,reduceCtorEq,Nat.reduceLT,reduceAdd,reduceSub,reduceMul,Nat.reduceBEq,reduceLeDiff,reduceToNat,reduceLE,hQ,hlt,zi,hgi,↓cK,dX,h2,h3,g2,g3,hm0,JI,hr]
     repeat' (first | omega | exact L9 | refine ⟨?_,?_⟩)
   have JI:=eq_true e1
   by_cases e2:k0.kind=4
   rotate_left 1
   · have e2':=eq_false e2
     have hr:nI (inT t) none l=false:=by rw [hb];simp [OB,hf,hg,hmv,e1,hkk,e2]
     simp(maxSteps:=400000)only[↓au,av,BEq.rfl,reduceIte,reduceCtorEq,Nat.reduceLT,reduceAdd,reduceSub,reduceMul,Nat.reduceBEq,reduceLeDiff,reduceToNat,reduceLE,hQ,hlt,zi,hgi,↓cK,dX,h2,h3,g2,g3,hm0,hk1,JI,e2',hr]
     repeat' (first | omega | exact L9 | refine ⟨?_,?_⟩)
   have e2':=eq_true e2
   cases e3:inT t w with
   | false=>
    have hr:nI (inT t) none l=false:=by rw [hb];simp [OB,hf,hg,e3]
    simp(maxSteps:=400000)only[↓au,av,BEq.rfl,reduceIte,reduceCtorEq,Nat.reduceLT,reduceAdd,reduceSub,reduceMul,Nat.reduceBEq,reduceLeDiff,reduceToNat,reduceLE,hQ,hlt,zi,hgi,↓cK,dX,h2,h3,g2,g3,hm0,hk1,JI,e2',↓dO,e3,hr]
    repeat' (first | omega | exact L9 | exact hw | exact hwv.1 | refine ⟨?_,?_⟩)
   | true=>
    have he:OB (inT t) x=true:=by simp [OB,hf,hg,hmv,e1,hkk,e2,e3]
    rw [he] at hb
    rcases Nat.eq_zero_or_pos i with h0 | h0
    · have hi0:((0:Int)<(i:Int))=False:=eq_false (by omega)
      rw [ho0 h0] at hb
      simp(maxSteps:=400000)only[↓au,av,BEq.rfl,reduceIte,reduceCtorEq,Nat.reduceLT,reduceAdd,reduceSub,reduceMul,Nat.reduceBEq,reduceLeDiff,reduceToNat,reduceLE,hQ,hlt,zi,hgi,↓cK,dX,h2,h3,g2,g3,hm0,hk1,JI,e2',↓dO,e3,hi0]
      refine ⟨L9,hxl,L9,hxl,ht,hw,hwv.1,⟨by omega,by omega⟩,m-1,by omega,i+1,k0.s,some k0.s,by omega,fun h=>by omega,fun _=>rfl,hb,rfl⟩
    · have hi0:((0:Int)<(i:Int))=True:=eq_true (by omega)
      rw [ho1 h0] at hb
      simp only at hb
      cases e4:(Op.bytesLess k0.s last || decide (k0.s=last)) with
      | true=>
       have hr:nI (inT t) none l=false:=by rw [hb,e4];rfl
       simp(maxSteps:=400000)only[↓au,av,BEq.rfl,reduceIte,reduceCtorEq,Nat.reduceLT,reduceAdd,reduceSub,reduceMul,Nat.reduceBEq,reduceLeDiff,reduceToNat,reduceLE,hQ,hlt,zi,hgi,↓cK,dX,h2,h3,g2,g3,hm0,hk1,JI,e2',↓dO,e3,hi0,e4,hr]
       repeat' (first | omega | exact L9 | exact hw | exact hwv.1 | refine ⟨?_,?_⟩)
      | false=>
       rw [e4] at hb
       simp(maxSteps:=400000)only[↓au,av,BEq.rfl,reduceIte,reduceCtorEq,Nat.reduceLT,reduceAdd,reduceSub,reduceMul,Nat.reduceBEq,reduceLeDiff,reduceToNat,reduceLE,hQ,hlt,zi,hgi,↓cK,dX,h2,h3,g2,g3,hm0,hk1,JI,e2',↓dO,e3,hi0,e4]
       refine ⟨L9,hxl,L9,hxl,ht,hw,hwv.1,⟨by omega,by omega⟩,m-1,by omega,i+1,k0.s,some k0.s,by omega,fun h=>by omega,fun _=>rfl,hb,rfl⟩
theorem KI (t:aY) (s:List UInt8) (l:List Vl) (ht:t.length≤f) (hw:vZ t) (hs:s.length≤1000000000) (hl:l.length≤1000000) (hv:∀ v ∈ l,jN v) (hkey:∀ w,jN w→inT t w=true→(nA (dF s) w).2=0) :
  ai Tryz.prog 42 [aG t,.str s,dD l] [] (.bool (oO (inT t) s none l)) []:=by
 refine y7.a_ (T:=aP Tryz.prog [(38,aS),(40,kG f),(44,p_),(10,Ck),(68,qO),(67,oh 1000000)]) 0 hD (aj (af jl (af (RY hin) (af Dm (af Tp (af Fv (af (Ap 1000000) ah))))))) aU (by decide) fun Q hQ=>?_
 (conv=>arg 4;cbv);simp(maxSteps:=400000)only[↓au,av,BEq.rfl,reduceIte,reduceCtorEq,Nat.reduceLT,reduceAdd,reduceSub,reduceMul,Nat.reduceBEq,reduceLeDiff,reduceToNat,reduceLE,hQ]
 refine aF (fun m S=>∃ (i:Nat) (o:Option Vl),i+m=l.length∧(i=0→o=none)∧(0<i→∃ x y,l[i-1]?=some x∧(ax x)[0]?=some y∧o=some (gJ s y)∧inT t y=true)∧oO (inT t) s none l=oO (inT t) s o (l.drop i)∧S=⟨dz 85 [(0,aG t),(1,.str s),(2,dD l),(7,.int .i64 i)],[]⟩) l.length ⟨0,none,by omega,fun _=>rfl,fun h=>absurd h (Nat.lt_irrefl 0),by rw [List.drop_zero],?_⟩ ?_
 · simp only [bG,keepR,reduceAdd,kS,Nat.reduceBEq,map_nil]
   rfl
 rintro m S ⟨i,o,him,ho0,ho1,hb,rfl⟩
 have zi:(0≤(i:Int))=True:=eq_true (by omega)
 rcases lt_or_ge i l.length with h | h
 rotate_left 1
 · have hlt:((i:Int)<(l.length:Int))=False:=eq_false (by omega)
   rw [List.drop_eq_nil_of_le h] at hb
   have hr:oO (inT t) s none l=true:=by rw [hb];cases o <;> rfl
   simp(maxSteps:=400000)only[↓au,av,BEq.rfl,reduceIte,reduceCtorEq,Nat.reduceLT,reduceAdd,reduceSub,reduceMul,Nat.reduceBEq,reduceLeDiff,reduceToNat,reduceLE,hQ,hlt,hr]
 have hlt:((i:Int)<(l.length:Int))=True:=eq_true (by omega)
 have hgi:=List.getElem?_eq_getElem h
 have hp:=hv _ (getElem_mem h)
 rw [List.drop_eq_getElem_cons h,U6] at hb
 generalize l[i]=x at hgi hp hb
 have L9:=hp.rt
 have hxl:=hp.len
 have hxp:=hp.part
 have hxo:=L9.one
 obtain ⟨n0,r0,hv0,_⟩:=eP L9.name L9.one.ne
 have hm0:x[0]?=some n0:=by rw [hv0];rfl
 have hmv:xD x=n0.many:=by rw [hv0];rfl
 have hkd:jC x=n0.kind:=by rw [hv0];rfl
 have hmp:=U7 L9 hv0
 have hpl:=(pG L9).1
 by_cases e1:n0.kind=5
 rotate_left 1
 · have JI:=eq_false e1
   have hr:oO (inT t) s none l=false:=by rw [hb];simp [UY,hkd,e1]
   simp(maxSteps:=400000)only[↓au,av,BEq.rfl,reduceIte,reduceCtorEq,Nat.reduceLT,reduceAdd,reduceSub,reduceMul,Nat.reduceBEq,reduceLeDiff,reduceToNat,reduceLE,hQ,hlt,zi,hgi,hm0,JI,hr]
   repeat' (first | omega | exact rfl | refine ⟨?_,?_⟩)
 have JI:=eq_true e1
 by_cases e2:n0.many=0
 · have e2':=eq_true e2
   have hr:oO (inT t) s none l=false:=by rw [hb];simp [UY,hmv,e2]
   simp(maxSteps:=400000)only[↓au,av,BEq.rfl,reduceIte,reduceCtorEq,Nat.reduceLT,reduceAdd,reduceSub,reduceMul,Nat.reduceBEq,reduceLeDiff,reduceToNat,reduceLE,hQ,hlt,zi,hgi,hm0,JI,e2',hr]
   repeat' (first | omega | exact rfl | refine ⟨?_,?_⟩)
 have e2':=eq_false e2
 cases e3:(ax x).all (inT t) with
 | false=>
  have hr:oO (inT t) s none l=false:=by rw [hb];simp [UY,e3]
  simp(maxSteps:=400000)only[↓au,av,BEq.rfl,reduceIte,reduceCtorEq,Nat.reduceLT,reduceAdd,reduceSub,reduceMul,Nat.reduceBEq,reduceLeDiff,reduceToNat,reduceLE,hQ,hlt,zi,hgi,hm0,JI,e2',↓aS,↓kG,e3,hr]
  repeat' (first | omega | exact hxo | exact hw | exact (fun v hv=>(hxp v hv).1) | exact rfl | refine ⟨?_,?_⟩)
 | true=>
 have hin':=all_eq_true.1 e3
 obtain ⟨y,hy⟩:∃ y,(ax x)[0]?=some y:=⟨(ax x)[0]'(by omega),List.getElem?_eq_getElem _⟩
 have hym:=List.mem_of_getElem? hy
 have hyv:=(hxp y hym).1
 have hyi:=hin' y hym
 have hyk:=Dn _ _ hyv (hkey y hyv hyi)
 have hhd:(ax x).headD []=y:=by
  cases hq:ax x with
  | nil=>rw [hq] at hy;cases hy
  | cons a b=>rw [hq] at hy;cases hy;rfl
 have hgb:UY (inT t) s x=(ax x).all fun z=>gJ s z==gJ s y:=by
  unfold UY
  rw [hhd,hkd,hmv,e1,e3]
  simp [e2]
 rw [hhd,hgb] at hb
 have hkl:∀ z ∈ ax x,(gJ s z).length≤1000000:=fun z hz=>aay (hxp z hz).1
 have hpv:∀ v ∈ ax x,Rt v∧v.length≤1000000:=fun v hv=>⟨(hxp v hv).1.rt,(hxp v hv).1.len⟩
 have hpv2:∀ v ∈ ax x,jN v:=fun v hv=>(hxp v hv).1
 generalize hP:ax x=P at *
 have hk0:(P.map (gJ s))[0]?=some (gJ s y):=by rw [List.getElem?_map,hy];rfl
 have hK:P.map (gJ s)=P.map (gJ s):=rfl
 generalize hKe:P.map (gJ s)=K at *
 have hKl:K.length=P.length:=by rw [← hKe,List.length_map]
 simp(maxSteps:=400000)only[↓au,av,BEq.rfl,reduceIte,reduceCtorEq,Nat.reduceLT,reduceAdd,reduceSub,reduceMul,Nat.reduceBEq,reduceLeDiff,reduceToNat,reduceLE,hQ,hlt,zi,hgi,hm0,JI,e2',↓aS,hP,↓kG,e3,↓p_,hKe]
 refine ⟨hxo,by omega,ht,hw,by omega,hpv2,hxo,by omega,hs,by omega,hpv,?_⟩
 refine aF (fun m' S=>∃ k:Nat,k+m'=K.length∧(∀ (j:Nat) a,j<k→K[j]?=some a→a=gJ s y)∧S=⟨dz 85 [(0,aG t),(1,.str s),(2,dD l),(7,.int .i64 i),(8,dD K),(9,.int .i64 k)],[]⟩) K.length ⟨0,by omega,fun j x h=>absurd h (Nat.not_lt_zero j),?_⟩ ?_
 · simp only [bG,keepR,reduceAdd,kS,Nat.reduceBEq,map_nil]
   rfl
 rintro m' S ⟨k,hkm,hkb,rfl⟩
 have zk:(0≤(k:Int))=True:=eq_true (by omega)
 rcases lt_or_ge k K.length with g | g
 · have hlk:((k:Int)<(K.length:Int))=True:=eq_true (by omega)
   have R8:=List.getElem?_eq_getElem g
   have hml:(K[k]).length≤1000000:=by
    have:K[k] ∈ P.map (gJ s):=by rw [hKe];exact getElem_mem g
    obtain ⟨z,hz,he⟩:=List.mem_map.1 this
    rw [← he];exact hkl z hz
   generalize K[k]=a at R8 hml
   by_cases e4:a=gJ s y
   · have e4':decide (a=gJ s y)=true:=decide_eq_true e4
     simp(maxSteps:=400000)only[↓au,av,BEq.rfl,reduceIte,reduceCtorEq,Nat.reduceLT,reduceAdd,reduceSub,reduceMul,Nat.reduceBEq,reduceLeDiff,reduceToNat,reduceLE,hQ,hlk,zk,R8,hk0,↓Ck,e4']
     refine ⟨hml,hyk.len,⟨by omega,by omega⟩,m'-1,by omega,k+1,by omega,fun j b hj hb'=>?_,rfl⟩
     rcases lt_or_ge j k with g' | g'
     · exact hkb j b g' hb'
     · have:j=k:=by omega
       subst this
       rw [R8] at hb';cases hb';exact e4
   · have e4':decide (a=gJ s y)=false:=decide_eq_false e4
     have hr:oO (inT t) s none l=false:=by
      have:(P.all fun z=>gJ s z==gJ s y)=false:=by
       rw [all_eq_false]
       have:a ∈ P.map (gJ s):=by rw [hKe];exact List.mem_of_getElem? R8
       obtain ⟨z,hz,he⟩:=List.mem_map.1 this
       exact ⟨z,hz,by rw [he];simpa using e4⟩
      rw [hb,this];rfl
     simp(maxSteps:=400000)only[↓au,av,BEq.rfl,reduceIte,reduceCtorEq,Nat.reduceLT,reduceAdd,reduceSub,reduceMul,Nat.reduceBEq,reduceLeDiff,reduceToNat,reduceLE,hQ,hlk,zk,R8,hk0,↓Ck,e4',hr]
     repeat' (first | omega | exact hml | exact hyk.len | exact rfl | refine ⟨?_,?_⟩)
 · have hlk:((k:Int)<(K.length:Int))=False:=eq_false (by omega)
   have hall:(P.all fun z=>gJ s z==gJ s y)=true:=by
    rw [all_eq_true]
    intro z hz
    have:gJ s z ∈ K:=by rw [← hKe];exact List.mem_map.2 ⟨z,hz,rfl⟩
    obtain ⟨j,hj⟩:=List.mem_iff_getElem?.1 this
    have hjl:=(List.getElem?_eq_some_iff.1 hj).1
    rw [hkb j _ (by omega) hj];simp
   rw [hall,Bool.true_and] at hb
   rcases Nat.eq_zero_or_pos i with h0 | h0
   · have hi0:((0:Int)<(i:Int))=False:=eq_false (by omega)
     rw [ho0 h0] at hb
     simp(maxSteps:=400000)only[↓au,av,BEq.rfl,reduceIte,reduceCtorEq,Nat.reduceLT,reduceAdd,reduceSub,reduceMul,Nat.reduceBEq,reduceLeDiff,reduceToNat,reduceLE,hQ,hlk,hi0]
     exact ⟨⟨by omega,by omega⟩,m-1,by omega,i+1,some (gJ s y),by omega,fun h=>by omega,fun _=>⟨x,y,by rw [Nat.add_sub_cancel];exact hgi,by rw [hP];exact hy,rfl,hyi⟩,hb,rfl⟩
   · have hi0:((0:Int)<(i:Int))=True:=eq_true (by omega)
     obtain ⟨xp,yp,q1,q2,q3,q4⟩:=ho1 h0
     rw [q3] at hb
     simp only at hb
     have t1:((i:Int)-1).toNat=i-1:=by omega
     have z1:(0≤(i:Int)-1)=True:=eq_true (by omega)
     have r1:(-9223372036854775808≤(i:Int)-1∧(i:Int)-1≤9223372036854775807)=True:=eq_true ⟨by omega,by omega⟩
     have xv:=hv xp (List.mem_of_getElem? q1)
     have yv:=(xv.part yp (List.mem_of_getElem? q2)).1
     have yk:=Dn _ _ yv (hkey yp yv q4)
     have xvo:=xv.rt.one
     have xvl:=xv.len
     have yvr:=yv.rt
     have yvl:=yv.len
     by_cases e5:0≤gV jm 1000000 (gJ s yp) (gJ s y)
     · have e5':=eq_true e5
       have hr:oO (inT t) s none l=false:=by
        have:decide (KF (gJ s yp) (gJ s y)<0)=false:=decide_eq_false (by unfold KF;omega)
        rw [hb,this];rfl
       simp(maxSteps:=400000)only[↓au,av,BEq.rfl,reduceIte,reduceCtorEq,Nat.reduceLT,reduceAdd,reduceSub,reduceMul,Nat.reduceBEq,reduceLeDiff,reduceToNat,reduceLE,hQ,hlk,hi0,t1,z1,r1,q1,q2,↓aS,↓qO,hk0,↓oh,e5',hr]
       repeat' (first | omega | exact xvo | exact yvr | exact yk.ok2 | exact hyk.ok2 | exact yk.len | exact rfl | refine ⟨?_,?_⟩)
     · have e5':=eq_false e5
       have:decide (KF (gJ s yp) (gJ s y)<0)=true:=decide_eq_true (by unfold KF;omega)
       rw [this,Bool.true_and] at hb
       simp(maxSteps:=400000)only[↓au,av,BEq.rfl,reduceIte,reduceCtorEq,Nat.reduceLT,reduceAdd,reduceSub,reduceMul,Nat.reduceBEq,reduceLeDiff,reduceToNat,reduceLE,hQ,hlk,hi0,t1,z1,r1,q1,q2,↓aS,↓qO,hk0,↓oh,e5']
       exact ⟨xvo,xvl,hs,yvr,yvl,yk.len,yk.ok2,hyk.ok2,⟨by omega,by omega⟩,m-1,by omega,i+1,some (gJ s y),by omega,fun h=>by omega,fun _=>⟨x,y,by rw [Nat.add_sub_cancel];exact hgi,by rw [hP];exact hy,rfl,hyi⟩,hb,rfl⟩
end
end Lp
namespace Lp
open Go Go.Proofs
open Nat (lt_or_ge reduceAdd reduceLeDiff reduceMul reduceSub)
open Int (reduceEq reduceLE reduceToNat)
def abI (t:aY) (v:Vl):Bool:=match t with
 | n::r=>ni inT v (bF (n::r)) (aC (n::r)) && (n.n==1 || xD v==(bF (n::r)).length)
 | []=>false
def xJ (f:Nat):dJ:=fun args objs K=>match args with
 | [a0,a1]=>fU aG a0 (HK.mk:HK fun t=>fU aB a1 (HK.mk:HK fun v=>(t.length≤f+1)∧(vZ t)∧(Y.kindOf t=2)∧(jN v)∧K (.bool (abI t v)) objs 0))
 | _=>False
def um (f:Nat):dJ:=fun args objs K=>match args with
 | [a0,a1]=>fU aG a0 (HK.mk:HK fun t=>fU dD a1 (HK.mk:HK fun l=>(t.length≤f)∧(vZ t)∧(l.length≤1000000)∧(∀ v ∈ l,jN v)∧K (.bool (nI (inT t) none l)) objs 0))
 | _=>False
def uo (f:Nat):dJ:=fun args objs K=>match args with
 | [a0,.str s,a2]=>fU aG a0 (HK.mk:HK fun t=>fU dD a2 (HK.mk:HK fun l=>(t.length≤f)∧(vZ t)∧(s.length≤1000000000)∧(l.length≤1000000)∧(∀ v ∈ l,jN v)∧(∀ w,jN w→inT t w=true→(nA (dF s) w).2=0)∧K (.bool (oO (inT t) s none l)) objs 0))
 | _=>False
theorem Dw.key {n:fE}{r p:aY}(h:Dw bC dF (n::r)) (hk:n.kind=7∨n.kind=8) (hp:aC (n::r)=[p]):(lC (dF n.s) p).isSome=true:=by
 obtain ⟨_,_,ps,h3,_,_,h6,_⟩:=h.parts
 have e:aC (n::r)=ps.map Y.gU:=by
  have:n.kind≠1:=by omega
  simp only [aC,this,if_false,fo h3]
 rw [e] at hp
 match ps,hp with
 | [q],hp=>
  simp only [List.map_cons,List.map_nil,List.cons.injEq,and_true] at hp
  subst hp
  rw [L8]
  simp only [GJ,hk,if_true] at h6
  unfold Ve at h6
  cases hl:lC (dF n.s) q with
  | none=>rw [hl] at h6;cases h6
  | some j=>rfl
theorem aeM {f:Nat}(hin:aD Tryz.prog 17 (dO f)):∀ (t:aY) (v:Vl),t.length≤f+1→vZ t→Y.kindOf t=2→jN v→ai Tryz.prog 39 [aG t,aB v] [] (.bool (abI t v)) []
 | [],_,_,h2,_,_=>absurd rfl h2.Bb.rt.one.ne
 | n::r,v,h1,h2,h3,h4=>KH hin n r v (by simp only [List.length_cons] at h1;omega) h2 h3 h4
theorem Ym {f:Nat}(hin:aD Tryz.prog 17 (dO f)) (n:fE) (r:aY) (v:Vl) (ht:r.length≤f) (hw:vZ (n::r)) (hv:jN v):ai Tryz.prog 17 [aG (n::r),aB v] [] (.bool (inT (n::r) v)) []:=by
 have oD:aD Tryz.prog 39 (xJ f):=by
  have abJ:aD Tryz.prog 39 (xJ f):=by
   intro args objs K h
   unfold xJ at h
   split at h
   · rename_i a0 a1
     obtain ⟨t,rfl,v,rfl,h1,h2,h3,h4,hk⟩:=h
     exact ⟨_,_,_,.pure _ rfl (aeM hin t v h1 h2 h3 h4),hk⟩
   · exact h.elim
  exact abJ
 have aeN:aD Tryz.prog 41 (um f):=by
  have aaz:aD Tryz.prog 41 (um f):=by
   intro args objs K h
   unfold um at h
   split at h
   · rename_i a0 a1
     obtain ⟨t,rfl,l,rfl,h1,h2,h3,h4,hk⟩:=h
     exact ⟨_,_,_,.pure _ rfl (Jp hin t l h1 h2 h3 h4),hk⟩
   · exact h.elim
  exact aaz
 have aeO:aD Tryz.prog 42 (uo f):=by
  have aaA:aD Tryz.prog 42 (uo f):=by
   intro args objs K h
   unfold uo at h
   split at h
   · rename_i a0 s a2
     obtain ⟨t,rfl,l,rfl,h1,h2,h3,h4,h5,h6,hk⟩:=h
     exact ⟨_,_,_,.pure _ rfl (KI hin t s l h1 h2 h3 h4 h5 h6),hk⟩
   · exact h.elim
  exact aaA
 refine FZ.a_ (T:=aP Tryz.prog [(33,vB),(37,qJ),(38,aS),(20,dY),(39,xJ f),(40,kG f),(41,um f),(42,uo f),(44,p_),(43,rQ 1000000),(17,dO f)]) 0 hD (aj (af Kr (af Fs (af jl (af zD (af oD (af (RY hin) (af aeN (af aeO (af Dm (af (Jk 1000000) (af hin ah)))))))))))) aU (by decide) fun Q hQ=>?_
 have hE:=OC hw.Bb.rt v
 have hA:=hw.Bb.atoms
 have hpt:=hw.part
 have hhd:=hw.Bb.rt.head
 have hkey:∀ p,n.kind=7∨n.kind=8→aC (n::r)=[p]→(lC (dF n.s) p).isSome=true:=fun p a b=>hw.Bb.rt.key a b
 have hwl:=Jj hw.Bb
 have ho:=hw.Bb.rt.one
 have hl:=hw.Bb.len
 have hss:=hw.ss n (List.mem_cons_self ..)
 have hg0:(n::r)[0]?=some n:=rfl
 have hOb:abI (n::r) v=(ni inT v (bF (n::r)) (aC (n::r)) && (n.n==1 || xD v==(bF (n::r)).length)):=rfl
 have hkd:Y.kindOf (n::r)=n.kind:=rfl
 have hpl:=(hw.Bb.rt.parts).1
 have hTl:(n::r).length=r.length+1:=rfl
 generalize hts:aC (n::r)=ts at *
 generalize hT:n::r=T at *
 have FJ:=hv.rt
 have hvl:=hv.len
 have hvo:=FJ.one
 have hvp:∀ w ∈ ax v,jN w:=fun w hx=>(hv.part w hx).1
 have afH:=(pG FJ).1
 obtain ⟨n0,r0,hv0,_⟩:=eP FJ.name FJ.one.ne
 have hm0:v[0]?=some n0:=by rw [hv0];rfl
 have hmh:v.headD aV=n0:=by rw [hv0];rfl
 have hmn:=hv.nd n0 (by rw [hv0];exact List.mem_cons_self ..)
 have hkv:jC v=n0.kind:=by rw [hv0];rfl
 have fz:fC 1 0 [⟨44,11,[bH n],true,1⟩] (.bR 0 1 0 0)=.addr (bH n):=rfl
 (conv=>arg 4;cbv);simp(maxSteps:=400000)only[↓au,av,BEq.rfl,reduceIte,reduceCtorEq,Nat.reduceLT,reduceAdd,reduceSub,reduceMul,Nat.reduceBEq,reduceLeDiff,reduceToNat,reduceLE,hQ,hg0,tY,iN,iT,AU,bT,eF]
 refine aT _ (Weak.freeze 1 0 (Nat.zero_le _) _) ?_
 by_cases k0:n.kind=0
 · have hr:inT T v=true:=by rw [hE];simp [k0]
   simp(maxSteps:=400000)only[↓au,av,BEq.rfl,reduceIte,reduceCtorEq,Nat.reduceLT,reduceAdd,reduceSub,reduceMul,Nat.reduceBEq,reduceLeDiff,reduceToNat,reduceLE,hQ,fz,k0,hr]
 have Nl:=eq_false k0
 by_cases k1:n.kind=1
 · have hr:inT T v=(v.length==1 && bO n.n (fH T) n0):=by rw [hE,hmh];simp [k1]
   by_cases hl1:v.length=1
   · have e1:((v.length:Int)=1)=True:=eq_true (by omega)
     have hr':inT T v=bO n.n (fH T) n0:=by rw [hr,hl1];rfl
     simp(maxSteps:=400000)only[↓au,av,BEq.rfl,reduceIte,reduceCtorEq,Nat.reduceLT,reduceAdd,reduceSub,reduceMul,Nat.reduceBEq,reduceLeDiff,reduceToNat,reduceLE,hQ,fz,Nl,k1,reduceEq,e1,hm0,↓vB,↓qJ,hr']
     obtain ⟨a1,a2,a3,a4⟩:=hA k1
     repeat' (first | omega | exact a3 | exact ho | exact rfl | exact hmn.2 | exact (show su n0 from ⟨by omega,hmn.2⟩) | refine ⟨?_,?_⟩)
   · have e1:((v.length:Int)=1)=False:=eq_false (by omega)
     have hr':inT T v=false:=by rw [hr];simp [hl1]
     simp(maxSteps:=400000)only[↓au,av,BEq.rfl,reduceIte,reduceCtorEq,Nat.reduceLT,reduceAdd,reduceSub,reduceMul,Nat.reduceBEq,reduceLeDiff,reduceToNat,reduceLE,hQ,fz,Nl,k1,reduceEq,e1,hr']
 have n1':=eq_false k1
 by_cases k2:n.kind=2
 · by_cases j:n0.kind=6
   · have hr:inT T v=abI T v:=by rw [hE,hOb,hkv];simp [k2,j]
     simp(maxSteps:=400000)only[↓au,av,BEq.rfl,reduceIte,reduceCtorEq,Nat.reduceLT,reduceAdd,reduceSub,reduceMul,Nat.reduceBEq,reduceLeDiff,reduceToNat,reduceLE,hQ,fz,Nl,n1',k2,reduceEq,hm0,j,↓aS,↓dY,↓xJ,hr]
     repeat' (first | omega | exact ho | exact hvo | exact hw | exact hv | exact rfl | exact (hkd.trans k2) | exact (fun h=>h) | refine ⟨?_,?_⟩)
   · have j':=eq_false j
     have hr:inT T v=false:=by rw [hE,hkv];simp [k2,j]
     simp(maxSteps:=400000)only[↓au,av,BEq.rfl,reduceIte,reduceCtorEq,Nat.reduceLT,reduceAdd,reduceSub,reduceMul,Nat.reduceBEq,reduceLeDiff,reduceToNat,reduceLE,hQ,fz,Nl,n1',k2,reduceEq,hm0,j',↓aS,↓dY,hr]
     repeat' (first | omega | exact ho | exact hvo | exact rfl | refine ⟨?_,?_⟩)
 have n2':=eq_false k2
 by_cases k3:n.kind=3
 · obtain ⟨p,q1,q2,q3⟩:=hhd (by omega)
   have qp:=(hpt p (by rw [q1];exact List.mem_cons_self ..)).1
   have g0:([p]:List aY)[0]?=some p:=rfl
   by_cases j:n0.kind=6
   · have hr:inT T v=(ax v).all (inT p):=by rw [hE,hkv,q1];simp [k3,j]
     rw [q1] at hts hwl
     simp(maxSteps:=400000)only[↓au,av,BEq.rfl,reduceIte,reduceCtorEq,Nat.reduceLT,reduceAdd,reduceSub,reduceMul,Nat.reduceBEq,reduceLeDiff,reduceToNat,reduceLE,hQ,fz,Nl,n1',n2',k3,reduceEq,hm0,j,↓aS,↓dY,hts,q1,g0,↓kG,hr]
     repeat' (first | omega | exact ho | exact hvo | exact qp | exact rfl | exact hvp | refine ⟨?_,?_⟩)
   · have j':=eq_false j
     have hr:inT T v=false:=by rw [hE,hkv];simp [k3,j]
     simp(maxSteps:=400000)only[↓au,av,BEq.rfl,reduceIte,reduceCtorEq,Nat.reduceLT,reduceAdd,reduceSub,reduceMul,Nat.reduceBEq,reduceLeDiff,reduceToNat,reduceLE,hQ,fz,Nl,n1',n2',k3,reduceEq,hm0,j',↓aS,↓dY,hr]
     repeat' (first | omega | exact ho | exact hvo | exact rfl | refine ⟨?_,?_⟩)
 have n3':=eq_false k3
 by_cases j:n0.kind=5
 rotate_left 1
 · have j':=eq_false j
   have hr:inT T v=false:=by rw [hE,hkv];simp [k0,k1,k2,k3,j]
   simp(maxSteps:=400000)only[↓au,av,BEq.rfl,reduceIte,reduceCtorEq,Nat.reduceLT,reduceAdd,reduceSub,reduceMul,Nat.reduceBEq,reduceLeDiff,reduceToNat,reduceLE,hQ,fz,Nl,n1',n2',n3',reduceEq,hm0,j',↓aS,↓dY,hr]
   repeat' (first | omega | exact ho | exact hvo | exact rfl | refine ⟨?_,?_⟩)
 by_cases k4:n.kind=4
 · have hr:inT T v=(xE inT ts (ax v) && (ax v).length==ts.length):=by rw [hE,hkv];simp [k4,j]
   simp(maxSteps:=400000)only[↓au,av,BEq.rfl,reduceIte,reduceCtorEq,Nat.reduceLT,reduceAdd,reduceSub,reduceMul,Nat.reduceBEq,reduceLeDiff,reduceToNat,reduceLE,hQ,fz,Nl,n1',n2',n3',k4,reduceEq,hm0,j,↓aS,↓dY,hts]
   refine ⟨hvo,by omega,ho,by omega,?_⟩
   generalize hPe:ax v=P at *
   refine aF (fun m S=>∃ i:Nat,i+m=P.length∧(∀ (j:Nat) t w,j<i→ts[j]?=some t→P[j]?=some w→inT t w=true)∧S=⟨dz 141 [(6,dD P),(7,kT ts),(8,.int .i64 i)],[]⟩) P.length ⟨0,by omega,fun j _ _ h=>absurd h (Nat.not_lt_zero j),?_⟩ ?_
   · simp only [bG,keepR,reduceAdd,kS,Nat.reduceBEq,List.map_nil]
     rfl
   rintro m S ⟨i,him,hb,rfl⟩
   have zi:(0≤(i:Int))=True:=eq_true (by omega)
   have V9:inT T v=(xE inT ts P && decide ((P.length:Int)=(ts.length:Int))):=by
    rw [hr];congr 1
    show decide (P.length=ts.length)=_
    rw [Bool.eq_iff_iff];simp only [decide_eq_true_eq];omega
   have done:¬ (i<P.length∧i<ts.length)→xE inT ts P=true:=fun hx=>by
    unfold xE;rw [List.all_eq_true];intro x hx'
    obtain ⟨k,hk⟩:=List.mem_iff_getElem?.1 hx'
    rw [List.getElem?_zip_eq_some] at hk
    have a1:=(List.getElem?_eq_some_iff.1 hk.1).1
    have a2:=(List.getElem?_eq_some_iff.1 hk.2).1
    exact hb k x.1 x.2 (by omega) hk.1 hk.2
   rcases lt_or_ge i P.length with h | h
   rotate_left 1
   · have hlt:((i:Int)<(P.length:Int))=False:=eq_false (by omega)
     rw [done (by omega),Bool.true_and] at V9
     simp(maxSteps:=400000)only[↓au,av,BEq.rfl,reduceIte,reduceCtorEq,Nat.reduceLT,reduceAdd,reduceSub,reduceMul,Nat.reduceBEq,reduceLeDiff,reduceToNat,reduceLE,hQ,hlt,V9]
   have hlt:((i:Int)<(P.length:Int))=True:=eq_true (by omega)
   rcases lt_or_ge i ts.length with h' | h'
   rotate_left 1
   · have hlt2:((i:Int)<(ts.length:Int))=False:=eq_false (by omega)
     rw [done (by omega),Bool.true_and] at V9
     simp(maxSteps:=400000)only[↓au,av,BEq.rfl,reduceIte,reduceCtorEq,Nat.reduceLT,reduceAdd,reduceSub,reduceMul,Nat.reduceBEq,reduceLeDiff,reduceToNat,reduceLE,hQ,hlt,hlt2,V9]
   have hlt2:((i:Int)<(ts.length:Int))=True:=eq_true (by omega)
   have hgi:=List.getElem?_eq_getElem h
   have hgt:=List.getElem?_eq_getElem h'
   have hwi:=hvp _ (List.getElem_mem h)
   have hpi:=hpt _ (List.getElem_mem h')
   generalize P[i]=w at hgi hwi
   generalize ts[i]=t at hgt hpi
   cases hx:inT t w with
   | false=>
    have hr':inT T v=false:=by
     have:xE inT ts P=false:=by
      unfold xE;rw [List.all_eq_false]
      exact ⟨(t,w),List.mem_iff_getElem?.2 ⟨i,by rw [List.getElem?_zip_eq_some];exact ⟨hgt,hgi⟩⟩,by simp [hx]⟩
     rw [hr,this];rfl
    simp(maxSteps:=400000)only[↓au,av,BEq.rfl,reduceIte,reduceCtorEq,Nat.reduceLT,reduceAdd,reduceSub,reduceMul,Nat.reduceBEq,reduceLeDiff,reduceToNat,reduceLE,hQ,hlt,hlt2,zi,hgi,hgt,↓dO,hx,hr']
    repeat' (first | omega | exact hpi.1 | exact hwi | exact rfl | refine ⟨?_,?_⟩)
   | true=>
    simp(maxSteps:=400000)only[↓au,av,BEq.rfl,reduceIte,reduceCtorEq,Nat.reduceLT,reduceAdd,reduceSub,reduceMul,Nat.reduceBEq,reduceLeDiff,reduceToNat,reduceLE,hQ,hlt,hlt2,zi,hgi,hgt,↓dO,hx]
    refine ⟨by omega,hpi.1,hwi,⟨by omega,by omega⟩,m-1,by omega,i+1,by omega,fun j a b hj ha hb'=>?_,rfl⟩
    rcases lt_or_ge j i with g | g
    · exact hb j a b g ha hb'
    · have:j=i:=by omega
      subst this
      rw [hgt] at ha;cases ha
      rw [hgi] at hb';cases hb';exact hx
 have n4':=eq_false k4
 have hk5:n.kind=5∨n.kind=6∨n.kind=7∨n.kind=8:=by
  have h9:=hw.Bb.rt.kind
  rw [hkd] at h9
  by_cases h0:n.kind=5∨n.kind=6∨n.kind=7∨n.kind=8
  · exact h0
  · exfalso
    simp only [not_or] at h0
    simp [dh,h0,k0,k1,k2,k3,k4,h9] at hpl
 obtain ⟨p,q1,q2,q3⟩:=hhd (by omega)
 have qp:=(hpt p (by rw [q1];exact List.mem_cons_self ..)).1
 have g0:([p]:List aY)[0]?=some p:=rfl
 have hlead:n.kind=7∨n.kind=8→∀ w,jN w→inT p w=true→(nA (dF n.s) w).2=0:=fun a w hw' hi=>RX _ _ _ q2 hw'.rt hi (hkey p a q1)
 rw [q1] at hts hwl
 by_cases k6:n.kind=6
 · have hr:inT T v=nI (inT p) none (ax v):=by rw [hE,hkv,q1];simp [k6,j]
   simp(maxSteps:=400000)only[↓au,av,BEq.rfl,reduceIte,reduceCtorEq,Nat.reduceLT,reduceAdd,reduceSub,reduceMul,Nat.reduceBEq,reduceLeDiff,reduceToNat,reduceLE,hQ,fz,Nl,n1',n2',n3',n4',k6,reduceEq,hm0,j,↓aS,↓dY,hts,q1,g0,↓um,hr]
   repeat' (first | omega | exact ho | exact hvo | exact qp | exact rfl | exact hvp | refine ⟨?_,?_⟩)
 have n6':=eq_false k6
 by_cases k8:n.kind=8
 · have hr:inT T v=oO (inT p) n.s none (ax v):=by rw [hE,hkv,q1];simp [k8,j]
   simp(maxSteps:=400000)only[↓au,av,BEq.rfl,reduceIte,reduceCtorEq,Nat.reduceLT,reduceAdd,reduceSub,reduceMul,Nat.reduceBEq,reduceLeDiff,reduceToNat,reduceLE,hQ,fz,Nl,n1',n2',n3',n4',n6',k8,reduceEq,hm0,j,↓aS,↓dY,hts,q1,g0,↓uo,hr]
   repeat' (first | omega | exact ho | exact hvo | exact qp | exact rfl | exact hvp | exact hlead (.inr k8) | refine ⟨?_,?_⟩)
 have n8':=eq_false k8
 by_cases k7:n.kind=7
 · have hr:inT T v=((ax v).all (inT p) && nZ KF ((ax v).map (gJ n.s))):=by rw [hE,hkv,q1];simp [k7,j]
   cases ha:(ax v).all (inT p) with
   | false=>
    rw [ha,Bool.false_and] at hr
    simp(maxSteps:=400000)only[↓au,av,BEq.rfl,reduceIte,reduceCtorEq,Nat.reduceLT,reduceAdd,reduceSub,reduceMul,Nat.reduceBEq,reduceLeDiff,reduceToNat,reduceLE,hQ,fz,Nl,n1',n2',n3',n4',n6',n8',k7,reduceEq,hm0,j,↓aS,↓dY,hts,q1,g0,↓kG,ha,hr]
    repeat' (first | omega | exact ho | exact hvo | exact qp | exact rfl | exact hvp | refine ⟨?_,?_⟩)
   | true=>
    rw [ha,Bool.true_and] at hr
    unfold KF at hr
    have hK:adz 1000000 ((ax v).map (gJ n.s)):=by
     refine ⟨by rw [List.length_map];omega,fun w hx=>?_⟩
     obtain ⟨y,hy,rfl⟩:=List.mem_map.1 hx
     have:=Dn _ _ (hvp y hy) (hlead (.inl k7) y (hvp y hy) (List.all_eq_true.1 ha y hy))
     exact ⟨this.len,this.ok2⟩
    simp(maxSteps:=400000)only[↓au,av,BEq.rfl,reduceIte,reduceCtorEq,Nat.reduceLT,reduceAdd,reduceSub,reduceMul,Nat.reduceBEq,reduceLeDiff,reduceToNat,reduceLE,hQ,fz,Nl,n1',n2',n3',n4',n6',n8',k7,reduceEq,hm0,j,↓aS,↓dY,hts,q1,g0,↓kG,ha,↓p_,↓rQ,hr]
    repeat' (first | omega | exact ho | exact hvo | exact qp | exact rfl | exact hvp | exact hK | exact (fun w hx=>⟨(hvp w hx).rt,(hvp w hx).len⟩) | refine ⟨?_,?_⟩)
 have n7':=eq_false k7
 have k5:n.kind=5:=by omega
 have hr:inT T v=(ax v).all (inT p):=by rw [hE,hkv,q1];simp [k5,j]
 simp(maxSteps:=400000)only[↓au,av,BEq.rfl,reduceIte,reduceCtorEq,Nat.reduceLT,reduceAdd,reduceSub,reduceMul,Nat.reduceBEq,reduceLeDiff,reduceToNat,reduceLE,hQ,fz,Nl,n1',n2',n3',n4',n6',n8',n7',k5,reduceEq,hm0,j,↓aS,↓dY,hts,q1,g0,↓kG,hr]
 repeat' (first | omega | exact ho | exact hvo | exact qp | exact rfl | exact hvp | refine ⟨?_,?_⟩)
theorem V_:∀ f:Nat,aD Tryz.prog 17 (dO f)
 | 0=>by
  have U9:aD Tryz.prog 17 (dO 0):=by
   intro args objs K h
   unfold dO at h
   split at h
   · rename_i a0 a1
     obtain ⟨t,rfl,v,rfl,h1,h2,h3,hk⟩:=h
     exact ⟨_,_,_,.pure _ rfl ((absurd (List.length_eq_zero_iff.1 (by omega)) h2.Bb.rt.one.ne)),hk⟩
   · exact h.elim
  exact U9
 | f+1=>by
  have hs:∀ (t:aY) (v:Vl),t.length≤f+1→vZ t→jN v→ai Tryz.prog 17 [aG t,aB v] [] (.bool (inT t v)) []:=by
   intro t v h1 h2 h3
   cases t with
   | nil=>exact absurd rfl h2.Bb.rt.one.ne
   | cons n r=>exact Ym (V_ f) n r v (by simp only [List.length_cons] at h1;omega) h2 h3
  have U9:aD Tryz.prog 17 (dO (f+1)):=by
   intro args objs K h
   unfold dO at h
   split at h
   · rename_i a0 a1
     obtain ⟨t,rfl,v,rfl,h1,h2,h3,hk⟩:=h
     exact ⟨_,_,_,.pure _ rfl (hs t v h1 h2 h3),hk⟩
   · exact h.elim
  exact U9
end Lp
namespace Lp
open Go Go.Proofs
theorem U_ (neg:Bool) (f:List UInt8) (e:Int):(dM neg f e).2=0→(dM neg f e).1.kind=3:=by
 unfold dM
 split
 · intro h;exact absurd h (by decide)
 · split
   · intro _;rfl
   · split
     · intro h;exact absurd h (by decide)
     · split
       · intro h;exact absurd h (by decide)
       · intro _;rfl
theorem Jq:∀ (l:List lQ) (n:Nd),n ∈ jv l→n.kind=3
 | [],_,h=>by cases h
 | a::l,n,h=>by
  rw [jv] at h
  rcases List.mem_append.1 h with h | h
  · split at h
    · rename_i hk
      have hb:∀ b,(cO a.c b).2=true→(cO a.c b).1.kind=3:=fun b=>by
       unfold cO
       split
       · intro _;rfl
       · intro h
         exact U_ _ _ _ (of_decide_eq_true h)
      rcases List.mem_cons.1 h with rfl | h
      · exact hk
      · rcases List.mem_append.1 h with h | h
        · split at h
          · rename_i hx;rw [List.mem_singleton.1 h];exact hb _ hx
          · cases h
        · split at h
          · rename_i hx;rw [List.mem_singleton.1 h];exact hb _ hx
          · cases h
    · cases h
  · exact Jq l n h
theorem L_ {k:Nat}:∀ (l:List lQ) (n:Nd),(∀ a ∈ l,a.c.s.length≤k)→n ∈ kR l→n.s.length≤k+1
 | [],_,_,h=>by cases h
 | a::l,n,hs,h=>by
  rw [kR] at h
  rcases List.mem_append.1 h with h | h
  · have:=hs a (List.mem_cons_self ..)
    split at h
    · rcases List.mem_cons.1 h with rfl | h
      · omega
      · rw [List.mem_singleton.1 h];simp;omega
    · cases h
  · exact L_ l n (fun b hb=>hs b (List.mem_cons_of_mem _ hb)) h
theorem xK {mask:Int}{l:List lQ}(h:(jd mask l).2=true):bO mask l (jd mask l).1=true∧(jd mask l).1 ∈ gK l:=by
 revert h
 unfold jd
 split
 · rename_i n hn
   intro _
   exact ⟨by simpa using List.find?_some hn,List.mem_of_find?_eq_some hn⟩
 · intro h;cases h
theorem Yn {mask:Int}{l:List lQ}{k:Nat}(hk:100≤k) (hs:∀ a ∈ l,a.c.s.length≤k) (h:(jd mask l).2=true):(jd mask l).1.s.length≤k+1:=by
 obtain ⟨h1,h2⟩:=xK h
 simp only [bO,Bool.and_eq_true] at h1
 have h3:=(jr h1.1.1).1
 generalize (jd mask l).1=n at *
 have hn:n.kind=3→n.s.length≤100:=fun hk=>by
  simp only [bD,hk,Int.reduceEq,or_self,if_false,if_true,qQ,Bool.and_eq_true,decide_eq_true_eq] at h3
  omega
 unfold gK at h2
 rcases List.mem_append.1 h2 with h2 | h2
 · rcases List.mem_append.1 h2 with h2 | h2
   · simp only [List.mem_cons,List.not_mem_nil,or_false] at h2
     rcases h2 with rfl | rfl | rfl | rfl <;> simp
   · have:=hn (Jq _ _ h2);omega
 · rcases List.mem_cons.1 h2 with rfl | h2
   · simp
   · exact L_ l n hs h2
def Nds (v:Vl):Prop:=∀ n ∈ v,n.s.length≤1000000∧n.name.length≤4611686018427387904
theorem abK {l:uq}(h:∀ y ∈ l,y.1.length≤4611686018427387904∧Nds y.2):Nds (OI l):=by
 intro n hn
 rcases List.mem_cons.1 hn with rfl | hn
 · simp
 · obtain ⟨p,hp,hn⟩:=List.mem_flatten.1 hn
   obtain ⟨y,hy,rfl⟩:=List.mem_map.1 hp
   obtain ⟨h1,h2⟩:=h y hy
   cases hv:y.2 with
   | nil=>rw [hv] at hn;cases hn
   | cons a b=>
    rw [hv] at hn h2
    rcases List.mem_cons.1 hn with rfl | hn
    · exact ⟨(h2 a (List.mem_cons_self ..)).1,h1⟩
    · exact h2 n (List.mem_cons_of_mem _ hn)
theorem Jr {n:fE}{r:aY}(h:Dw bC dF (n::r)) (hg:Y.Good rT (n::r)):∀ p ∈ aC (n::r),Y.Good rT p:=by
 intro p hp
 by_cases hk:n.kind=1
 · simp only [aC,hk,if_true] at hp;cases hp
 simp only [aC,hk,if_false] at hp
 obtain ⟨_,_,ps,h3,h4,_,_,h6,_⟩:=h.parts
 rw [fo h3] at hp
 obtain ⟨q,hq,rfl⟩:=List.mem_map.1 hp
 have hgs:Y.Good rT ps.flatten:=by rw [h4];exact (show Y.Good rT ([n]++r) from hg).suf
 exact (Y.Good.j4 ps h6 hgs q hq).gU YF
theorem Ma {n:fE}{r:aY}(h:Dw bC dF (n::r)) (hg:Y.Good rT (n::r)) (hk:n.kind=1):(jd n.n (fH (n::r))).2=true:=by
 obtain ⟨ps,h1,h2⟩:=hg 0 n r rfl
 obtain ⟨_,_,qs,h3,h4,_⟩:=h.parts
 rw [h1] at h3;cases h3
 rw [(Sg h hk).1,← h4]
 simp only [rT,hk] at h2
 simpa using h2
theorem abL {names:List (List UInt8)}{ts:List aY}{nm:List UInt8}{t:aY}(h:(nm,t) ∈ names.zip ts):(nm,dB t) ∈ names.zip (ts.map dB):=by
 obtain ⟨j,hj⟩:=List.mem_iff_getElem?.1 h
 rw [List.getElem?_zip_eq_some] at hj
 exact List.mem_iff_getElem?.2 ⟨j,by rw [List.getElem?_zip_eq_some];exact ⟨hj.1,by rw [List.getElem?_map,hj.2];rfl⟩⟩
theorem Yo {names:List (List UInt8)}{l:List Vl}(h:g_ names l.length=true) (hl:∀ p ∈ l,Rt p){nm:List UInt8}{w:Vl}(hm:(nm,w) ∈ names.zip l):qZ (iB names l) nm=some w:=by
 have hp:=Sc h hl
 have hk:jC (OI (vU (names.zip l)))=6:=rfl
 rw [iB,if_pos h,qZ,if_pos hk,aaG hp.rt]
 exact GA (uE hp.rise) ((qa _ _).2 hm)
theorem xL:∀ (f:Nat) (t:aY),t.length≤f→vZ t→Y.Good rT t→Rt (dB t)∧Nds (dB t)∧inT t (dB t)=true
 | 0,t,h,hw,_=>absurd (List.length_eq_zero_iff.1 (by omega)) hw.Bb.rt.one.ne
 | f+1,[],_,hw,_=>absurd rfl hw.Bb.rt.one.ne
 | f+1,n::r,h,hw,hg=>by
  simp only [List.length_cons] at h
  have hrt:=hw.Bb.rt
  have hE:=OC hrt
  have hpt:=hw.part
  have YG:=Jr hrt hg
  have ih:∀ p ∈ aC (n::r),Rt (dB p)∧Nds (dB p)∧inT p (dB p)=true:=fun p hp=>xL f p (by have:=(hpt p hp).2;omega) (hpt p hp).1 (YG p hp)
  have hws:∀ w ∈ (aC (n::r)).map dB,Rt w∧Nds w:=fun w hx=>by
   obtain ⟨p,hp,rfl⟩:=List.mem_map.1 hx
   exact ⟨(ih p hp).1,(ih p hp).2.1⟩
  have hnm:=hw.Bb.names
  rw [F5 hrt,hE]
  by_cases k0:n.kind=0
  · simp only [k0,if_true]
    refine ⟨?_,?_,trivial⟩
    · exact nJ (by decide)
    · intro x hx;rw [List.mem_singleton.1 hx];simp [aV]
  by_cases k1:n.kind=1
  · simp only [k1,Int.reduceEq,if_false,if_true]
    have hh:=Ma hrt hg k1
    obtain ⟨m1,m2⟩:=xK hh
    have m3:=m1
    simp only [bO,Bool.and_eq_true] at m3
    have m4:=jr m3.1.1
    have m5:=Yn (k:=500000) (by omega) (hw.Bb.atoms k1).2.2.2 hh
    refine ⟨m4.2.2.2.2,?_,?_⟩
    · intro x hx;rw [List.mem_singleton.1 hx,m4.2.1];exact ⟨by omega,by simp⟩
    · simpa using m1
  by_cases k2:n.kind=2
  · simp only [k2,Int.reduceEq,if_false,if_true]
    obtain ⟨hok,hri⟩:=hrt.names k2
    have hok':g_ (bF (n::r)) ((aC (n::r)).map dB).length=true:=by rw [List.length_map];exact hok
    have hso:=Sc hok' fun w hx=>(hws w hx).1
    have EK:iB (bF (n::r)) ((aC (n::r)).map dB)=OI (vU ((bF (n::r)).zip ((aC (n::r)).map dB))):=by rw [iB,if_pos hok']
    refine ⟨?_,?_,?_⟩
    · rw [EK];exact acH hso
    · rw [EK]
      refine abK fun y hy=>?_
      have:=List.of_mem_zip ((qa _ _).1 hy)
      exact ⟨hnm.2 _ this.1,(hws _ this.2).2⟩
    · have a1:jC (iB (bF (n::r)) ((aC (n::r)).map dB))=6:=by rw [EK];rfl
      have a2:xD (iB (bF (n::r)) ((aC (n::r)).map dB))=(bF (n::r)).length:=by
       rw [EK]
       show ((vU _).length:Int)=_
       rw [OU,List.length_zip,List.length_map]
       have:=(fZ.1 hok).1
       omega
      rw [a1,a2]
      simp only [beq_self_eq_true,Bool.or_true,Bool.and_true,Bool.true_and]
      unfold ni
      rw [List.all_eq_true]
      intro x hx
      rw [Yo hok' (fun w hx=>(hws w hx).1) (abL hx)]
      exact (ih x.2 (List.of_mem_zip hx).2).2.2
  by_cases k3:n.kind=3
  · simp only [k3,Int.reduceEq,if_false,if_true]
    refine ⟨nJ (by decide),?_,?_⟩
    · intro x hx;rw [List.mem_singleton.1 hx];simp
    · have:ax [⟨6,0,[],[],false,0⟩]=[]:=rfl
      rw [this];rfl
  by_cases k4:n.kind=4
  · simp only [k4,Int.reduceEq,if_false,if_true]
    refine ⟨OM fun w hx=>(hws w hx).1,?_,?_⟩
    · intro x hx
      rcases List.mem_cons.1 hx with rfl | hx
      · simp
      · obtain ⟨w,hw',hx⟩:=List.mem_flatten.1 hx
        exact (hws w hw').2 x hx
    · rw [Be fun w hx=>(hws w hx).1,List.length_map]
      have:xE inT (aC (n::r)) ((aC (n::r)).map dB)=true:=by
       unfold xE
       rw [List.all_eq_true]
       intro x hx
       obtain ⟨j,hj⟩:=List.mem_iff_getElem?.1 hx
       rw [List.getElem?_zip_eq_some,List.getElem?_map] at hj
       obtain ⟨j1,j2⟩:=hj
       rw [j1] at j2
       have j3:dB x.1=x.2:=by simpa using j2
       rw [← j3]
       exact (ih x.1 (List.mem_of_getElem? j1)).2.2
      rw [this]
      simp [jC,j6]
  · simp only [k0,k1,k2,k3,k4,if_false]
    have e:ax (j6 [])=[]:=rfl
    refine ⟨OM (fun w hx=>by cases hx),?_,?_⟩
    · intro x hx
      rcases List.mem_cons.1 hx with rfl | hx
      · simp
      · cases hx
    · rw [e]
      simp [jC,j6,nI,oO,nZ]
end Lp
namespace Lp
open Go Go.Proofs
open List (flatten_cons map_cons map_map)
theorem Wd:∀ (L q:uq),(L.map (·.1)).Nodup→(∀ x ∈ L,x ∈ q)→(L.map (·.2)).flatten.length≤(q.map (·.2)).flatten.length
 | [],_,_,_=>Nat.zero_le _
 | x::L,q,hn,hs=>by
  have hx:=hs x (List.mem_cons_self ..)
  have hp:=List.perm_cons_erase hx
  have h1:=KS (hp.map (·.2))
  rw [map_cons,List.nodup_cons] at hn
  have h2:=Wd L (q.erase x) hn.2 fun y hy=>by
   refine (List.mem_erase_of_ne fun e=>hn.1 ?_).2 (hs y (List.mem_cons_of_mem _ hy))
   rw [← e];exact List.mem_map.2 ⟨y,hy,rfl⟩
  rw [h1]
  simp only [map_cons,flatten_cons,List.length_append]
  omega
theorem yJ {v:Vl}(h:Rt v) (hk:jC v=5∨jC v=6):1≤dL v:=by
 obtain ⟨n,r,rfl,_⟩:=eP h.name h.one.ne
 have hk':n.kind=5∨n.kind=6:=hk
 rw [pM h,if_pos hk'];omega
theorem RZ {v:Vl}{d:Nat}(h:Rt v) (hp:∀ p ∈ ax v,dL p+1≤d) (hd:1≤d):dL v≤d:=by
 obtain ⟨n,r,rfl,_⟩:=eP h.name h.one.ne
 rw [pM h]
 split
 · have:((ax (n::r)).map dL).foldl max 0≤d-1:=uF _ _ _ (Nat.zero_le _) fun x hx=>by
    obtain ⟨p,hpm,rfl⟩:=List.mem_map.1 hx
    have:=hp p hpm
    omega
   omega
 · omega
theorem OG (g:aY→Nat):∀ (ts:List aY) (l:List Vl),ts.length=l.length→(∀ x ∈ ts.zip l,g x.1≤x.2.length)→(ts.map g).foldr (·+·) 0≤l.flatten.length
 | [],_,_,_=>Nat.zero_le _
 | t::ts,[],h,_=>by simp at h
 | t::ts,w::l,h,hx=>by
  have h1:=hx (t,w) (by simp)
  have h2:=OG g ts l (by simpa using h) fun x hm=>hx x (List.mem_cons_of_mem _ hm)
  simp only [map_cons,List.foldr_cons,flatten_cons,List.length_append] at h1 ⊢
  omega
theorem OH:∀ ts:List aY,(ts.map dB).flatten.length=(ts.map fun t=>(dB t).length).foldr (·+·) 0
 | []=>rfl
 | t::ts=>by
  have:=OH ts
  simp only [map_cons,flatten_cons,List.length_append,List.foldr_cons,this]
theorem Mc:∀ (f:Nat) (t:aY) (v:Vl),t.length≤f→vZ t→Y.Good rT t→Rt v→inT t v=true→(dB t).length≤v.length∧dL (dB t)≤dL v
 | 0,t,_,h,hw,_,_,_=>absurd (List.length_eq_zero_iff.1 (by omega)) hw.Bb.rt.one.ne
 | f+1,[],_,_,hw,_,_,_=>absurd rfl hw.Bb.rt.one.ne
 | f+1,n::r,v,h,hw,hg,hv,hi=>by
  have hwg:=xL (f+1) (n::r) h hw hg
  simp only [List.length_cons] at h
  have hrt:=hw.Bb.rt
  have hpt:=hw.part
  have YG:=Jr hrt hg
  have afx:1≤v.length:=List.length_pos_iff.2 hv.one.ne
  have ih:∀ p ∈ aC (n::r),∀ w,Rt w→inT p w=true→(dB p).length≤w.length∧dL (dB p)≤dL w:=fun p hp w h1 h2=>Mc f p w (by have:=(hpt p hp).2;omega) (hpt p hp).1 (YG p hp) h1 h2
  have hpr:∀ p ∈ aC (n::r),Rt (dB p):=fun p hp=>(xL p.length p (Nat.le_refl _) (hpt p hp).1 (YG p hp)).1
  have hws:∀ w ∈ (aC (n::r)).map dB,Rt w:=fun w hx=>by
   obtain ⟨p,hp,rfl⟩:=List.mem_map.1 hx
   exact hpr p hp
  have hone:∀ x:Nd,Rt [x]→(x.kind=5∨x.kind=6→1≤dL v)→[x].length≤v.length∧dL [x]≤dL v:=fun x hx hk=>by
   refine ⟨afx,?_⟩
   rw [pM hx]
   split
   · rename_i hk'
     have h0:ax [x]=[]:=by
      cases hp:ax [x] with
      | nil=>rfl
      | cons a b=>
       have h1:=lZ hx (p:=a) (by rw [hp];exact List.mem_cons_self ..)
       have h2:=List.length_pos_iff.2 h1.1.one.ne
       have h3:=h1.2
       simp only [List.length_cons,List.length_nil] at h3
       omega
     have:=hk hk'
     rw [h0];simpa using this
   · exact Nat.zero_le _
  rw [OC hrt] at hi
  have Yp:=hwg.1
  rw [F5 hrt] at Yp ⊢
  by_cases k0:n.kind=0
  · simp only [k0,if_true] at Yp ⊢
    exact hone _ Yp fun hk=>by simp [aV] at hk
  by_cases k1:n.kind=1
  · simp only [k1,Int.reduceEq,if_false,if_true] at Yp ⊢
    have hh:=(xK (Ma hrt hg k1)).1
    simp only [bO,Bool.and_eq_true] at hh
    have:=(jr hh.1.1).2.2.2.1
    exact hone _ Yp fun hk=>by omega
  by_cases k2:n.kind=2
  · simp only [k2,Int.reduceEq,if_false,if_true,Bool.and_eq_true,beq_iff_eq] at hi Yp ⊢
    obtain ⟨⟨h6,hf⟩,_⟩:=hi
    obtain ⟨hok,hri⟩:=hrt.names k2
    have hok':g_ (bF (n::r)) ((aC (n::r)).map dB).length=true:=by rw [List.length_map];exact hok
    have hnl:=(fZ.1 hok).1
    obtain ⟨b1,b2,b3,b4⟩:=Di hv h6
    unfold ni at hf
    rw [List.all_eq_true] at hf
    have Yq:∀ x ∈ (bF (n::r)).zip (aC (n::r)),(x.1,fK v x.1) ∈ Me v∧(dB x.2).length≤(fK v x.1).length∧dL (dB x.2)+1≤dL v:=fun x hx=>by
     have h1:=hf x hx
     cases ho:qZ v x.1 with
     | none=>rw [ho] at h1;cases h1
     | some w=>
      rw [ho] at h1
      have h2:fK v x.1=w:=by simp [fK,ho]
      have h3:=xI hv ho
      have h4:=ih x.2 (List.of_mem_zip hx).2 w (lZ hv h3).1 h1
      have h5:=GD hv h3
      rw [qZ,if_pos h6] at ho
      rw [h2]
      exact ⟨pK ho,h4.1,by omega⟩
    refine ⟨?_,?_⟩
    · rw [EI hok',OH]
      have e1:=OG (fun t=>(dB t).length) (aC (n::r)) ((bF (n::r)).map (fK v)) (by rw [List.length_map];exact hnl.symm) fun x hx=>by
       obtain ⟨j,hj⟩:=List.mem_iff_getElem?.1 hx
       rw [List.getElem?_zip_eq_some,List.getElem?_map] at hj
       cases hn:(bF (n::r))[j]? with
       | none=>rw [hn] at hj;simp at hj
       | some nm=>
        rw [hn] at hj
        have h2:fK v nm=x.2:=by simpa using hj.2
        rw [← h2]
        exact (Yq (nm,x.1) (List.mem_iff_getElem?.2 ⟨j,by rw [List.getElem?_zip_eq_some];exact ⟨hn,hj.1⟩⟩)).2.1
      have e2:=Wd ((bF (n::r)).map fun nm=>(nm,fK v nm)) (Me v) (by rw [map_map];simpa [Function.comp_def] using uE hri) fun x hx=>by
       obtain ⟨nm,hnm,rfl⟩:=List.mem_map.1 hx
       obtain ⟨j,hj⟩:=List.mem_iff_getElem?.1 hnm
       have hjl:=(List.getElem?_eq_some_iff.1 hj).1
       have hq:(aC (n::r))[j]?=some ((aC (n::r))[j]'(by omega)):=List.getElem?_eq_getElem _
       exact (Yq (nm,(aC (n::r))[j]'(by omega)) (List.mem_iff_getElem?.2 ⟨j,by rw [List.getElem?_zip_eq_some];exact ⟨hj,hq⟩⟩)).1
      rw [map_map] at e2
      have e3:v.length=((Me v).map (·.2)).flatten.length+1:=by
       conv=>lhs;rw [← b2]
       exact O1 _
      have e4:((bF (n::r)).map ((fun x:List UInt8×Vl=>x.2) ∘ fun nm=>(nm,fK v nm)))=(bF (n::r)).map (fK v):=rfl
      rw [e4] at e2
      omega
    · refine RZ Yp (fun p hp=>?_) (yJ hv (.inr h6))
      rw [iB,if_pos hok',(KN (Sc hok' hws).rt).1] at hp
      obtain ⟨y,hy,rfl⟩:=List.mem_map.1 hp
      have hy':=(qa _ _).1 hy
      obtain ⟨j,hj⟩:=List.mem_iff_getElem?.1 hy'
      rw [List.getElem?_zip_eq_some,List.getElem?_map] at hj
      cases hn:(aC (n::r))[j]? with
      | none=>rw [hn] at hj;simp at hj
      | some q=>
       rw [hn] at hj
       have h2:dB q=y.2:=by simpa using hj.2
       rw [← h2]
       exact (Yq (y.1,q) (List.mem_iff_getElem?.2 ⟨j,by rw [List.getElem?_zip_eq_some];exact ⟨hj.1,hn⟩⟩)).2.2
  by_cases k3:n.kind=3
  · simp only [k3,Int.reduceEq,if_false,if_true,Bool.and_eq_true,beq_iff_eq] at hi Yp ⊢
    exact hone _ Yp fun _=>yJ hv (.inr hi.1)
  by_cases k4:n.kind=4
  · simp only [k4,Int.reduceEq,if_false,if_true,Bool.and_eq_true,beq_iff_eq] at hi Yp ⊢
    obtain ⟨h5,hf,hl⟩:=hi
    unfold xE at hf
    rw [List.all_eq_true] at hf
    have Yq:∀ x ∈ (aC (n::r)).zip (ax v),(dB x.1).length≤x.2.length∧dL (dB x.1)+1≤dL v:=fun x hx=>by
     have hm:=List.of_mem_zip hx
     have h4:=ih x.1 hm.1 x.2 (lZ hv hm.2).1 (hf x hx)
     have h5:=GD hv hm.2
     exact ⟨h4.1,by omega⟩
    have hll:(aC (n::r)).length=(ax v).length:=by omega
    refine ⟨?_,?_⟩
    · have e1:=OG (fun t=>(dB t).length) (aC (n::r)) (ax v) hll fun x hx=>(Yq x hx).1
      have e2:v.length=(ax v).flatten.length+1:=by
       obtain ⟨a,b,rfl,_⟩:=eP hv.name hv.one.ne
       conv=>lhs;rw [← OO hv h5]
       rfl
      rw [← OH] at e1
      show ((aC (n::r)).map dB).flatten.length+1≤_
      omega
    · refine RZ Yp (fun p hp=>?_) (yJ hv (.inl h5))
      rw [Be hws] at hp
      obtain ⟨q,hq,rfl⟩:=List.mem_map.1 hp
      obtain ⟨j,hj⟩:=List.mem_iff_getElem?.1 hq
      have hjl:=(List.getElem?_eq_some_iff.1 hj).1
      have hq:(ax v)[j]?=some ((ax v)[j]'(by omega)):=List.getElem?_eq_getElem _
      exact (Yq (q,(ax v)[j]'(by omega)) (List.mem_iff_getElem?.2 ⟨j,by rw [List.getElem?_zip_eq_some];exact ⟨hj,hq⟩⟩)).2
  · simp only [k0,k1,k2,k3,k4,if_false,Bool.and_eq_true,beq_iff_eq] at hi Yp ⊢
    exact hone _ Yp fun _=>yJ hv (.inl hi.1)
end Lp
namespace Lp
open Go Go.Proofs
open Nat (reduceAdd reduceLeDiff reduceMul reduceSub)
open Int (reduceLE reduceToNat)
theorem Wh {t:aY}{k:Nat}(hk:k≤100000) (h:FV t k=true):vZ t∧Y.Good rT t∧t.length≤k:=by
 have h0:=adu hk h
 simp only [FV,Bool.and_eq_true,decide_eq_true_eq,List.all_eq_true] at h
 obtain ⟨⟨_,h2⟩,h3⟩:=h
 simp only [qE,Bool.and_eq_true] at h3
 refine ⟨⟨h0.1,fun n hn=>?_⟩,(Y.kI t).1 h3.2,h0.2⟩
 have:=h2 n hn
 simp only [jI,Bool.and_eq_true,decide_eq_true_eq] at this
 omega
theorem Js (f:Nat):aD Tryz.prog 17 (dO f):=V_ f
theorem Nds.small {v:Vl}(h:Nds v) (hl:v.length≤1000000):Small v:=⟨hl,fun n hn=>⟨by have:=(h n hn).1;omega,(h n hn).2⟩⟩
theorem Va (t:aY) (hr:RN t):ai Tryz.prog 4 [aG t] [] (.bool true) []:=by
 refine A8.a_ (T:=aP Tryz.prog [(9,vM),(8,lJ),(11,sw),(16,mO),(17,(dO 60))]) 0 hD (aj (af zF (af Fu (af yI (af xk (af (Js 60) ah)))))) aU (by decide) fun Q hQ=>?_
 have t60:Int.toNat 60=60:=rfl
 cases hf:FV t 60 with
 | false=>
  (conv=>arg 4;cbv);simp(maxSteps:=400000)only[↓au,av,BEq.rfl,reduceIte,reduceCtorEq,Nat.reduceLT,reduceAdd,reduceSub,reduceMul,Nat.reduceBEq,reduceLeDiff,reduceToNat,reduceLE,hQ,↓kQ,↓lJ,t60,hf]
  exact ⟨hr.len,hr.txt,hr.cnm⟩
 | true=>
  obtain ⟨hw,hg,hl⟩:=Wh (by decide) hf
  obtain ⟨h1,h2,h3⟩:=xL t.length t (Nat.le_refl _) hw hg
  have hwl:=Bo hw.Bb.rt
  have hb:=KM h1
  (conv=>arg 4;cbv);simp(maxSteps:=400000)only[↓au,av,BEq.rfl,reduceIte,reduceCtorEq,Nat.reduceLT,reduceAdd,reduceSub,reduceMul,Nat.reduceBEq,reduceLeDiff,reduceToNat,reduceLE,hQ,↓kQ,↓lJ,t60,hf,↓sw,↓mO,hb,↓dO,h3]
  exact ⟨hr.len,hr.txt,hr.cnm,hw.Bb,h2.small (by omega),hl,hw,h1,by omega,h2⟩
theorem KJ (t:aY) (v:Vl) (hr:RN t) (hv:Big v):ai Tryz.prog 5 [aG t,aB v] [] (.bool true) []:=by
 refine vY.a_ (T:=aP Tryz.prog [(9,vM),(8,lJ),(18,Eh),(11,sw),(19,rH),(17,(dO 60))]) 0 hD (aj (af zF (af Fu (af Xr (af yI (af Io (af (Js 60) ah))))))) aU (by decide) fun Q hQ=>?_
 have t60:Int.toNat 60=60:=rfl
 cases hf:FV t 60 with
 | false=>
  (conv=>arg 4;cbv);simp(maxSteps:=400000)only[↓au,av,BEq.rfl,reduceIte,reduceCtorEq,Nat.reduceLT,reduceAdd,reduceSub,reduceMul,Nat.reduceBEq,reduceLeDiff,reduceToNat,reduceLE,hQ,↓kQ,↓lJ,t60,hf]
  exact ⟨hr.len,hr.txt,hr.cnm⟩
 | true=>
 obtain ⟨hw,hg,hl⟩:=Wh (by decide) hf
 obtain ⟨h1,h2,h3⟩:=xL t.length t (Nat.le_refl _) hw hg
 have hwl:=Bo hw.Bb.rt
 cases Yq:Bc v 60 with
 | false=>
  (conv=>arg 4;cbv);simp(maxSteps:=400000)only[↓au,av,BEq.rfl,reduceIte,reduceCtorEq,Nat.reduceLT,reduceAdd,reduceSub,reduceMul,Nat.reduceBEq,reduceLeDiff,reduceToNat,reduceLE,hQ,↓kQ,↓lJ,t60,hf,↓Eh,Yq]
  exact ⟨hr.len,hr.txt,hr.cnm,by have:=hv.len;omega,hv.txt⟩
 | true=>
 obtain ⟨FJ,hvl⟩:=UZ Yq
 have hvn:Nds v:=fun n hn=>by
  simp only [Bc,Bool.and_eq_true,decide_eq_true_eq,List.all_eq_true] at Yq
  have:=Yq.1.2 n hn
  omega
 cases hi:inT t v with
 | false=>
  (conv=>arg 4;cbv);simp(maxSteps:=400000)only[↓au,av,BEq.rfl,reduceIte,reduceCtorEq,Nat.reduceLT,reduceAdd,reduceSub,reduceMul,Nat.reduceBEq,reduceLeDiff,reduceToNat,reduceLE,hQ,↓kQ,↓lJ,t60,hf,↓Eh,Yq,↓dO,hi]
  exact ⟨hr.len,hr.txt,hr.cnm,by have:=hv.len;omega,hv.txt,hl,hw,FJ,by omega,hvn⟩
 | true=>
  obtain ⟨s1,s2⟩:=Mc t.length t v (Nat.le_refl _) hw hg FJ hi
  have afz:=List.length_pos_iff.2 hwl.2
  have c1:((0:Int)<((dB t).length:Int))=True:=eq_true (by omega)
  have c2:(((dB t).length:Int)≤(v.length:Int))=True:=eq_true (by omega)
  have c3:((dL (dB t):Int)≤(dL v:Int))=True:=eq_true (by omega)
  (conv=>arg 4;cbv);simp(maxSteps:=400000)only[↓au,av,BEq.rfl,reduceIte,reduceCtorEq,Nat.reduceLT,reduceAdd,reduceSub,reduceMul,Nat.reduceBEq,reduceLeDiff,reduceToNat,reduceLE,hQ,↓kQ,↓lJ,t60,hf,↓Eh,Yq,↓dO,hi,↓sw,c1,c2,↓rH,c3]
  exact ⟨hr.len,hr.txt,hr.cnm,by have:=hv.len;omega,hv.txt,hl,hw,⟨FJ,by omega,hvn⟩,hw.Bb,h1,by omega,FJ,by omega⟩
end Lp
namespace Lp
open Go Go.Proofs
theorem adA (t:aY) (hr:RN t):ai Tryz.prog 4 [aG t] [] (.bool true) []:=Va t hr
end Lp
namespace Lp
open Go
theorem gZ {a b:Bool}(ha:a=true) (hb:b=true):(a && b)=true:=by rw [ha,hb];rfl
theorem adH {P:Program}{f:FuncId}{fn:Func}{s:ChangeSpec}{c:OpenClaim}
  (h0:(c.wf (OpenSpec.ofChange s))=true)
  (h1:(laidOutB P)=true)
  (h2:(mapsRowed P)=true)
  (h3:(fn.params.all (P.readableRec ·))=true)
  (h4:(namedTie P c.named s.vars)=true)
  (h5:((c.stops==[]))=true)
  (h6:((P.stops==[]))=true)
  (h7:((c.knobs==[]))=true)
  (h8:((P.stopKnobs==[]))=true)
  (h9:((c.inPlace==P.inPlace f))=true)
  (h10:((c.unfollowed==P.unfollowed f))=true)
  (h11:((c.recurses==P.recurses f))=true)
  (h12:((c.named==P.varsNamed f))=true)
  (h13:((c.maps==(fn.params.toList++s.plain.varTypes P).any (P.mapsRec ·)))=true)
  (h14:((c.ifaces==(fn.params.toList++s.plain.varTypes P).any (P.ifacesRec ·)))=true)
  (h15:((c.mapsOut==P.mapsAmong fn.resultTypes.toList))=true)
  (h16:((c.loops==(fn.params.toList++s.plain.varTypes P).any (P.loopsFrom ·)))=true)
  (h17:((c.wideKeys==(fn.params.toList++s.plain.varTypes P++fn.resultTypes.toList).any (P.wideKeysFrom ·)))=true)
  (h18:(s.vars.all (P.varReadable ·))=true)
  (h19:(fn.resultTypes.all (fun t=>P.readableRec t && decide (t<P.types.size)))=true)
  (h20:((c.ifacesOut==fn.resultTypes.toList.any (P.ifacesRec ·)))=true)
  (h21:((c.loopsOut==fn.resultTypes.toList.any (P.loopsFrom ·)))=true)
  (h22:((c.plainKeys==P.plainKeys))=true)
  (h23:(c.shortTexts.isNone)=true)
  (h24:(P.stopsHeard)=true)
  (h25:(P.mayEnter)=true)
  (h26:((c.lifted==P.liftsFinal))=true)
  (h27:((P.make==some c.make))=true)
  (h28:((c.kinds==(if c.domain.isEmpty then [] else fn.params.toList.map fun t=>match P.underlying t with | some (.int k)=>some k | _=>none)))=true)
  (h29:((c.pinned==c.pinnedBy))=true)
  (h30:((c.veiled==(fn.params.toList++s.plain.varTypes P++fn.resultTypes.toList).any (P.veiledRec ·)))=true)
  (h31:(c.veiledFits P fn.params.toList (fn.params.toList++s.plain.varTypes P++fn.resultTypes.toList))=true):joinedFacts P f fn s c=true:=by
 unfold joinedFacts
 exact (gZ (gZ (gZ (gZ (gZ (gZ (gZ (gZ (gZ (gZ (gZ (gZ (gZ (gZ (gZ (gZ (gZ (gZ (gZ (gZ (gZ (gZ (gZ (gZ (gZ (gZ (gZ (gZ (gZ (gZ (gZ h0 h1) h2) h3) h4) h5) h6) h7) h8) h9) h10) h11) h12) h13) h14) h15) h16) h17) h18) h19) h20) h21) h22) h23) h24) h25) h26) h27) h28) h29) h30) h31)
end Lp
namespace Lp
open Go Go.Proofs
theorem aaD (t:aY) (v:Vl) (hr:RN t) (hv:Big v):ai Tryz.prog 5 [aG t,aB v] [] (.bool true) []:=KJ t v hr hv
end Lp
