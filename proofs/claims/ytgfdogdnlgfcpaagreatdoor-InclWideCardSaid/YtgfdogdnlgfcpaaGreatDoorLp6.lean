/-
  Part 6 of what the statement rests on: LpE8, LpTC2, LpTB4, LpTD1, LpTF0, LpTF2, LpTE1, LpTE2, LpTE3, LpTF3, LpTF4, LpTF5, LpE9, LpRd, LpMA1, LpTie, LpRdA, LpRdY, LpC11, LpC12, LpC13, LpH22, LpTG0, LpX2, LpD13, LpMf, LpX3, LpTG1, LpTG2, LpTG3, LpTG4, LpTG5, LpQA0, LpQB1, LpIns0, LpInsT, LpTF1, LpQB2, LpQB3, LpQB4, LpS0, LpQB5, LpQB6, LpQB7, LpQB8, LpQB9, LpRdR, LpMA2, LpRdI, LpC14, LpQC1, LpMapR, LpQC2, LpQS1, LpQC3, LpQC4, LpQC5, LpQC6, LpQC7, LpRdW, LpJn. No condition.
-/
import Derived.Test.YtgfdogdnlgfcpaaGreatDoorLp5
import Derived.Lib.LaidIn
import Derived.Lib.LaidU8T
import Derived.Deep.DeepHandedRow
import Derived.Deep.DeepWitnessRowRef
import Derived.ProofKit
import Derived.SizedLaws
import Derived.JoinedCond
import Derived.OpenShut
import Derived.Laws.CopyRow
import Derived.Shelf.Spec.SlicesInsertGrow
import Derived.Lib.Overlaps
import Derived.Lib.JoinLaws
import Derived.Lib.AppendZeros
import Derived.Laws.LoneSync
import Derived.ChangeKeysEq
import Derived.JoinedOf

set_option linter.all false
set_option maxHeartbeats 8000000
set_option maxRecDepth 100000
namespace Lp
open Go Go.Proofs Go.RowKit
open List (mem_cons mem_singleton not_mem_nil)
open Nat (reduceAdd reduceLeDiff reduceMul reduceSub)
open Int (reduceLE reduceToNat)
def Ck:dF:=fun args objs K=>match args with
 | [a0]=>fB bf a0 (HK.mk:HK fun l=>K (.fn 113 [] [.addr (bf l)]) objs 0)
 | _=>False
theorem Qh:aB Tryz.prog 102 (Ck):=by
 intro args objs K h
 unfold Ck at h
 split at h
 · rename_i a0
   obtain ⟨l,rfl,hk⟩:=h
   exact ⟨_,_,_,.pure _ rfl (E8 l),hk⟩
 · exact h.elim
def Cm:dF:=fun args objs K=>match args with
 | [.int .i64 mask,a1,a2]=>fB bf a1 (HK.mk:HK fun l=>fB ay a2 (HK.mk:HK fun n=>(0≤mask∧mask≤31)∧(l.length≤1000000)∧(∀ a ∈ l,fe a.c)∧(pO n)∧(n.s.length≤1000000)∧K (.bool (cO mask l n)) objs 0))
 | _=>False
theorem TL:aB Tryz.prog 103 (Cm):=by
 intro args objs K h
 unfold Cm at h
 split at h
 · rename_i mask a1 a2
   obtain ⟨l,rfl,n,rfl,h1,h2,h3,h4,h5,hk⟩:=h
   exact ⟨_,_,_,.pure _ rfl (MK mask l n h1 h2 h3 h4 h5),hk⟩
 · exact h.elim
def ZC (mask:Int) (l:List fQ) (x:Nd) (b:Bool):List Obj:=[⟨3,1,[.int .i64 mask],true,1⟩,⟨56,1,[bf l],true,1⟩,⟨27,6,[ay x],true,1⟩,⟨4,1,[.bool b],true,1⟩]
theorem Ig (mask:Int) (l:List fQ) (x:Nd) (b:Bool):eX (ZC mask l x b++[wz,hole]):=by
 intro o ho y hy c hc
 simp only [ZC,List.cons_append,List.nil_append,mem_cons,not_mem_nil,or_false] at ho
 rcases ho with rfl | rfl | rfl | rfl | rfl | rfl
 · simp only [mem_singleton] at hy;subst hy
   simp only [PV.cells,mem_singleton] at hc;subst hc;rfl
 · simp only [mem_singleton] at hy;subst hy
   simp only [bf,PV.cells,mem_singleton] at hc;subst hc;rfl
 · simp only [mem_singleton] at hy;subst hy
   simp only [ay,PV.cells,mem_cons,not_mem_nil,or_false] at hc
   rcases hc with rfl | rfl | rfl | rfl | rfl | rfl <;> rfl
 · simp only [mem_singleton] at hy;subst hy
   simp only [PV.cells,mem_singleton] at hc;subst hc;rfl
 · cases hy
 · cases hy
theorem ZE (mask:Int) (l:List fQ) (x:Nd) (b:Bool):Gh 4 (ZC mask l x b++[wz,hole]):=⟨Nat.le_refl _,(Ig mask l x b).lt,rfl,rfl⟩
def kI (mask:Int) (l:List fQ):PV:=.b_ [ay (kS mask l).1,.bool (kS mask l).2]
theorem TM (l:List Nd):∀ y ∈ l.map (fun s=>[ay s]),y.length=1:=by
 intro y hy
 obtain ⟨p,_,rfl⟩:=List.mem_map.1 hy
 rfl
theorem TN {l:List Nd}{i:Nat}{args:List PV}(h:(l.map fun s=>[ay s])[i]?=some args):∃ s,l[i]?=some s∧args=[ay s]:=by
 rw [List.getElem?_map] at h
 cases hx:l[i]? with
 | none=>rw [hx] at h;simp at h
 | some p=>rw [hx] at h;exact ⟨p,rfl,by simpa using h.symm⟩
theorem KN {mask:Int}{l:List fQ}{i:Nat}{c:Nd}(h:(g_ l)[i]?=some c) (hm:cO mask l c=true) (hb:∀ (j:Nat) d,j<i→(g_ l)[j]?=some d→cO mask l d=false):kS mask l=(c,true):=by
 have:(g_ l).find? (fun n=>cO mask l n)=some c:=by
  rw [List.find?_eq_some_iff_getElem]
  obtain ⟨hi,he⟩:=List.getElem?_eq_some_iff.1 h
  refine ⟨hm,i,hi,he,fun j hj=>?_⟩
  have:=hb j _ hj (List.getElem?_eq_getElem (by omega))
  simp [this]
 simp [kS,this]
theorem Ih {mask:Int}{l:List fQ}(hb:∀ (j:Nat) d,(g_ l)[j]?=some d→cO mask l d=false):kS mask l=(aM,false):=by
 have:(g_ l).find? (fun n=>cO mask l n)=none:=by
  rw [List.find?_eq_none]
  intro x hx
  obtain ⟨i,hi⟩:=List.mem_iff_getElem?.1 hx
  simp [hb i x hi]
 simp [kS,this]
theorem Qi (mask:Int) (l:List fQ) (x:Nd) (b:Bool) (o:Obj) (tm:List PV):(St.norm [] (some (1,6)) ⟨tm,ZC mask l x b++[wz,hole,o]⟩).objs=ZC mask l x b++[wz,hole]:=
 Fw (objs:=ZC mask l x b++[wz,hole]) (Ig mask l x b).lt
theorem fe.num {n:Nd}(h:fe n) (hk:n.kind=3):MZ n:=by
 have hb:=(oK n).1 (qC (oo h.sc).1 hk)
 refine ⟨hb.2.2.1,hb.2.1,hb.2.2.2.1,hb.2.2.2.2.1,fun hs=>?_⟩
 have hl:=hb.2.2.2.2.2.2
 rw [if_neg hs] at hl
 unfold Lib.trimRightB
 have hne:n.s.reverse≠[]:=by simpa using hs
 obtain ⟨x,r,hx⟩:=List.exists_cons_of_ne_nil hne
 have hx0:x≠48:=fun e=>hl.2 (by rw [← List.head?_reverse,hx,e];rfl)
 have:(x==(48:UInt8))=false:=by simpa using hx0
 rw [hx,List.dropWhile_cons,this]
 simp
theorem TP (neg:Bool) (f:List UInt8) (e:Int):(dN neg f e).1.name=[]:=by
 unfold dN
 split
 · rfl
 split
 · rfl
 split
 · rfl
 split <;> rfl
theorem M8 (n:Nd) (b:Bool):(dw n b).1.s.length≤100∧(dw n b).1.name=[]:=by
 unfold dw
 split
 · exact ⟨by simp,rfl⟩
 · exact ⟨W9 _ _ _,TP _ _ _⟩
theorem Ii {l:List fQ}(hc:∀ a ∈ l,fe a.c) (hs:∀ a ∈ l,a.c.s.length≤500000):∀ c ∈ g_ l,pO c∧c.s.length≤500001:=by
 have key:∀ c:Nd,c.name=[]→c.s.length≤500001→pO c∧c.s.length≤500001:=fun c h1 h2=>⟨⟨by omega,by rw [h1];simp⟩,h2⟩
 intro c hcm
 simp only [g_,List.mem_append,mem_cons,not_mem_nil,or_false,vD,vE,List.mem_flatten,List.mem_map] at hcm
 rcases hcm with ((rfl | rfl | rfl | rfl) | ⟨x,⟨a,ha,rfl⟩,hx⟩) | rfl | ⟨x,⟨a,ha,rfl⟩,hx⟩
 · exact key _ rfl (by simp)
 · exact key _ rfl (by simp)
 · exact key _ rfl (by simp)
 · exact key _ rfl (by simp)
 · by_cases hk:a.c.kind=3
   · rw [DU hk] at hx
     simp only [List.mem_append,mem_cons,not_mem_nil,or_false] at hx
     have hb:∀ b,c ∈ FR a b→pO c∧c.s.length≤500001:=fun b hb=>by
      unfold FR at hb
      split at hb
      · rw [mem_singleton] at hb;subst hb
        have:=M8 a.c b
        exact key _ this.2 (by omega)
      · cases hb
     rcases hx with (rfl | hx) | hx
     · exact key _ (oo (hc a ha).sc).2.1 (by have:=hs a ha;omega)
     · exact hb _ hx
     · exact hb _ hx
   · rw [show Ch a=[] from if_neg hk] at hx;cases hx
 · exact key _ rfl (by simp)
 · by_cases hk:a.c.kind=4
   · rw [show Ci a=[a.c,⟨4,0,[],a.c.s++[0],false,0⟩] from if_pos hk] at hx
     have hsa:=hs a ha
     simp only [mem_cons,not_mem_nil,or_false] at hx
     rcases hx with rfl | rfl
     · exact key _ (oo (hc a ha).sc).2.1 (by omega)
     · exact key _ rfl (by simp;omega)
   · rw [show Ci a=[] from if_neg hk] at hx;cases hx
theorem TQ (mask:Int) (l:List fQ) (hm:0≤mask∧mask≤31) (hl:l.length≤1000000) (hc:∀ a ∈ l,fe a.c) (hs:∀ a ∈ l,a.c.s.length≤500000):ai Tryz.prog 85 [.int .i64 mask,bf l] [] (kI mask l) []:=by
 refine LJ.SV (T:=aR Tryz.prog [(102,Ck),(103,Cm)]) 1 hD (aj (af Qh (af TL ah))) a_ (by decide) (by decide) fun Q hQ=>?_
 have hgv:=TJ l hl (fun a ha hk=>(hc a ha).num hk) (fun a ha=>by have:=hs a ha;omega)
 (conv=>arg 4;cbv);simp(maxSteps:=400000)only[↓aT,aU,BEq.rfl,reduceIte,reduceCtorEq,Nat.reduceLT,reduceAdd,reduceSub,reduceMul,Nat.reduceBEq,reduceLeDiff,reduceToNat,reduceLE,hQ,↓Ck,bO,bP]
 refine UG 113 [.addr (bf l)] ((g_ l).map fun c=>[ay c])
  (fun i O=>(∀ (j:Nat) d,j<i→(g_ l)[j]?=some d→cO mask l d=false)∧i≤(g_ l).length∧O=ZC mask l ⟨0,0,[],[],false,0⟩ false++[wz,hole])
  (fun i O=>∃ c,(g_ l)[i]?=some c∧cO mask l c=true∧(∀ (j:Nat) d,j<i→(g_ l)[j]?=some d→cO mask l d=false)∧O=ZC mask l c true++[wz,hole]) .ret rfl rfl rfl rfl (Nat.le_refl _) hgv (TM _) ⟨fun j q h=>absurd h (Nat.not_lt_zero j),Nat.zero_le _,rfl⟩ ?_ ?_ ?_ ?_ ?_
 · rintro i O ⟨_,_,rfl⟩
   exact ZE _ _ _ _
 · rintro i O ⟨c,_,_,_,rfl⟩
   exact ⟨ZE _ _ _ _,Ig _ _ _ _⟩
 · rintro i args O ⟨hb,hi,rfl⟩ ha
   obtain ⟨c,hci,rfl⟩:=TN ha
   have hil:=(List.getElem?_eq_some_iff.1 hci).1
   unfold ZC
   have hsm:=Ii hc hs c (List.mem_of_getElem? hci)
   cases he:cO mask l c
   · simp(maxSteps:=400000)only[↓aT,aU,BEq.rfl,reduceIte,reduceCtorEq,Nat.reduceLT,reduceAdd,reduceSub,reduceMul,Nat.reduceBEq,reduceLeDiff,reduceToNat,reduceLE,hQ,qx,knI,bO,bP,E9,↓Cm,he]
     refine ⟨hm,hl,hc,hsm.1,by omega,fun j d hj hd=>?_,by omega,Qi mask l ⟨0,0,[],[],false,0⟩ false _ _⟩
     rcases Nat.lt_or_ge j i with g | g
     · exact hb j d g hd
     · have:j=i:=by omega
       subst this
       rw [hci] at hd;cases hd;exact he
   · simp(maxSteps:=400000)only[↓aT,aU,BEq.rfl,reduceIte,reduceCtorEq,Nat.reduceLT,reduceAdd,reduceSub,reduceMul,Nat.reduceBEq,reduceLeDiff,reduceToNat,reduceLE,hQ,qx,knI,bO,bP,E9,↓Cm,he]
     exact ⟨hm,hl,hc,hsm.1,by omega,rfl,c,hci,he,hb,Qi mask l c true _ _⟩
 · rintro O ⟨hb,hi,rfl⟩
   unfold ZC
   simp(maxSteps:=400000)only[↓aT,aU,BEq.rfl,reduceIte,reduceCtorEq,Nat.reduceLT,reduceAdd,reduceSub,reduceMul,Nat.reduceBEq,reduceLeDiff,reduceToNat,reduceLE,hQ,bO,bP]
   have hr:kI mask l=.b_ [ay aM,.bool false]:=by
    have:=Ih (mask:=mask) (l:=l) fun j d hd=>hb j d (by rw [List.length_map];exact (List.getElem?_eq_some_iff.1 hd).1) hd
    simp [kI,this]
   exact ⟨by decide,rfl,by rw [hr];rfl⟩
 · rintro i O hi ⟨c,hci,he,hb,rfl⟩
   unfold ZC
   simp(maxSteps:=400000)only[↓aT,aU,BEq.rfl,reduceIte,reduceCtorEq,Nat.reduceLT,reduceAdd,reduceSub,reduceMul,Nat.reduceBEq,reduceLeDiff,reduceToNat,reduceLE,hQ,bO,bP]
   have hr:kI mask l=.b_ [ay c,.bool true]:=by
    simp [kI,KN hci he hb]
   rw [hr]
   exact ⟨_,_,rfl,rfl,rfl,rfl,Nat.le_refl _,rfl,_,_,rfl,rfl,rfl,rfl,Nat.le_refl _,rfl,rfl⟩
def qH:dF:=fun args objs K=>match args with
 | [.int .i64 mask,a1]=>fB bf a1 (HK.mk:HK fun l=>(0≤mask∧mask≤31)∧(l.length≤1000000)∧(∀ a ∈ l,fe a.c)∧(∀ a ∈ l,a.c.s.length≤500000)∧K (kI mask l) objs 0)
 | _=>False
theorem ED:aB Tryz.prog 85 (qH):=by
 intro args objs K h
 unfold qH at h
 split at h
 · rename_i mask a1
   obtain ⟨l,rfl,h1,h2,h3,h4,hk⟩:=h
   exact ⟨_,_,_,.pure _ rfl (TQ mask l h1 h2 h3 h4),hk⟩
 · exact h.elim
end Lp
namespace Lp
open Go Go.Proofs Go.RowKit
open List (append_assoc append_nil getElem_mem length_append length_cons length_nil map_nil take_succ_cons take_zero)
open Nat (lt_or_ge reduceAdd reduceLeDiff reduceMul reduceSub)
open Int (reduceLE reduceToNat)
theorem Xg {neg:Bool}{f:List UInt8}{e:Int}(h:¬ (dN neg f e).2=0):(dN neg f e).1=aM:=by
 unfold dN at h ⊢
 split
 · rfl
 · rename_i h1
   rw [if_neg h1] at h
   split
   · rename_i h2;rw [if_pos h2] at h;exact absurd rfl h
   · rename_i h2
     rw [if_neg h2] at h
     split
     · rfl
     · rename_i h3
       rw [if_neg h3] at h
       split
       · rfl
       · rename_i h4;rw [if_neg h4] at h;exact absurd rfl h
theorem Ij (n:Nd) (above:Bool) (hn:MZ n):ai Tryz.prog 98 [ay n,.bool above] [] (dL n above) []:=by
 refine yY.Ib (T:=aR Tryz.prog [(112,m_),(109,kR),(110,Cg),(111,vC)]) 0 hD (aj (af Qb (af M6 (af TF (af TG ah))))) a_ (by decide) (by decide) fun Q hQ=>?_
 by_cases hs:n.s=[]
 · have hr:dL n above=.b_ [ay ⟨3,0,[],[49],!above,-1000⟩,.bool true]:=by simp [dL,dw,hs]
   (conv=>arg 4;cbv);simp(maxSteps:=400000)only[↓aT,aU,BEq.rfl,reduceIte,reduceCtorEq,Nat.reduceLT,reduceAdd,reduceSub,reduceMul,Nat.reduceBEq,reduceLeDiff,reduceToNat,reduceLE,hQ,hs,hr,bO,bP]
   repeat' (first | omega | exact rfl | refine ⟨?_,?_⟩)
 have hs':(n.s=[])=False:=eq_false hs
 have l1:=hn.len
 have l2:=hn.lo
 have l3:=hn.hi
 have hE:∀ T:Int,jY n above=max (T-100) (-1000)→(if (-1000:Int) > T-100 then (-1000:Int) else T-100)=jY n above:=fun T h=>by rw [h];split <;> omega
 have l4:(0:Int)<n.s.length:=by
  cases h:n.s with
  | nil=>exact absurd h hs
  | cons x r=>simp
 have hEb:-1000≤jY n above∧jY n above≤1000∧jY n above≤n.e:=by
  unfold jY
  split <;> omega
 generalize UB:jY n above=E at *
 have E5:mh n E=n.s++List.replicate (n.e-E).toNat 48:=rfl
 have hpl:(mh n E).length≤3000:=by rw [E5,length_append,List.length_replicate];omega
 have hpf:gq (mh n E)=true:=EC _ _ hn.gq (P_ _)
 have hpt:0<(Lib.trimRightB (mh n E) 48).length:=by rw [E5,KJ];exact hn.last hs
 have hul:=Xe (mh n E)
 have hdl:=KL (mh n E)
 have fin:∀ X:List UInt8,dL n above=.b_ [ay (dN n.neg X E).1,.bool (decide ((dN n.neg X E).2=0))]→(¬ (dN n.neg X E).2=0→dL n above=.b_ [ay ⟨0,0,[],[],false,0⟩,.bool false])∧((dN n.neg X E).2=0→dL n above=.b_ [ay (dN n.neg X E).1,.bool true]):=fun X h=>
  ⟨fun g=>by rw [h,Xg g,decide_eq_false g];rfl,fun g=>by rw [h,decide_eq_true g]⟩
 by_cases hg:n.neg=above
 · have hg':(n.neg=above)=True:=eq_true hg
   have hr:dL n above=.b_ [ay (dN n.neg (ou (mh n E)) E).1,.bool (decide ((dN n.neg (ou (mh n E)) E).2=0))]:=by
    simp only [dL,dw,if_neg hs,if_pos hg,UB]
   obtain ⟨f1,f2⟩:=fin _ hr
   generalize hX:ou (mh n E)=X at *
   by_cases h49:n.s=[49]
   · have M0:(n.s=[49])=True:=eq_true h49
     have hEe:=hE (n.s.length+n.e-1) (by rw [← UB];unfold jY;rw [if_pos ⟨hg,h49⟩])
     by_cases hM:(dN n.neg X E).2=0
     · have hM':=eq_true hM
       have hr2:=f2 hM
       (conv=>arg 4;cbv);simp(maxSteps:=400000)only[↓aT,aU,BEq.rfl,reduceIte,reduceCtorEq,Nat.reduceLT,reduceAdd,reduceSub,reduceMul,Nat.reduceBEq,reduceLeDiff,reduceToNat,reduceLE,hQ,↓m_,↓kR,↓vC,hs',hg',M0,bO,bP,bY,Jg,Jh,ic,hEe,hX,dS,hM',hr2]
       repeat' (first | omega | exact hpf | exact hpt | exact rfl | refine ⟨?_,?_⟩)
     · have hM':=eq_false hM
       have hr2:=f1 hM
       (conv=>arg 4;cbv);simp(maxSteps:=400000)only[↓aT,aU,BEq.rfl,reduceIte,reduceCtorEq,Nat.reduceLT,reduceAdd,reduceSub,reduceMul,Nat.reduceBEq,reduceLeDiff,reduceToNat,reduceLE,hQ,↓m_,↓kR,↓vC,hs',hg',M0,bO,bP,bY,Jg,Jh,ic,hEe,hX,dS,hM',hr2]
       repeat' (first | omega | exact hpf | exact hpt | exact rfl | refine ⟨?_,?_⟩)
   · have M0:(n.s=[49])=False:=eq_false h49
     have hEe:=hE (n.s.length+n.e) (by rw [← UB];unfold jY;rw [if_neg fun h=>h49 h.2])
     by_cases hM:(dN n.neg X E).2=0
     · have hM':=eq_true hM
       have hr2:=f2 hM
       (conv=>arg 4;cbv);simp(maxSteps:=400000)only[↓aT,aU,BEq.rfl,reduceIte,reduceCtorEq,Nat.reduceLT,reduceAdd,reduceSub,reduceMul,Nat.reduceBEq,reduceLeDiff,reduceToNat,reduceLE,hQ,↓m_,↓kR,↓vC,hs',hg',M0,bO,bP,bY,Jg,Jh,ic,hEe,hX,dS,hM',hr2]
       repeat' (first | omega | exact hpf | exact hpt | exact rfl | refine ⟨?_,?_⟩)
     · have hM':=eq_false hM
       have hr2:=f1 hM
       (conv=>arg 4;cbv);simp(maxSteps:=400000)only[↓aT,aU,BEq.rfl,reduceIte,reduceCtorEq,Nat.reduceLT,reduceAdd,reduceSub,reduceMul,Nat.reduceBEq,reduceLeDiff,reduceToNat,reduceLE,hQ,↓m_,↓kR,↓vC,hs',hg',M0,bO,bP,bY,Jg,Jh,ic,hEe,hX,dS,hM',hr2]
       repeat' (first | omega | exact hpf | exact hpt | exact rfl | refine ⟨?_,?_⟩)
 · have hg':(n.neg=above)=False:=eq_false hg
   have hr:dL n above=.b_ [ay (dN n.neg (rG (mh n E)) E).1,.bool (decide ((dN n.neg (rG (mh n E)) E).2=0))]:=by
    rw [TI]
    simp only [dL,dw,if_neg hs,if_neg hg,UB]
   obtain ⟨f1,f2⟩:=fin _ hr
   have hEe:=hE (n.s.length+n.e) (by rw [← UB];unfold jY;rw [if_neg fun h=>hg h.1])
   generalize hX:rG (mh n E)=X at *
   by_cases hM:(dN n.neg X E).2=0
   · have hM':=eq_true hM
     have hr2:=f2 hM
     (conv=>arg 4;cbv);simp(maxSteps:=400000)only[↓aT,aU,BEq.rfl,reduceIte,reduceCtorEq,Nat.reduceLT,reduceAdd,reduceSub,reduceMul,Nat.reduceBEq,reduceLeDiff,reduceToNat,reduceLE,hQ,↓m_,↓kR,↓Cg,hs',hg',bO,bP,bY,Jg,Jh,ic,hEe,hX,dS,hM',hr2]
     repeat' (first | omega | exact hpf | exact hpt | exact rfl | refine ⟨?_,?_⟩)
   · have hM':=eq_false hM
     have hr2:=f1 hM
     (conv=>arg 4;cbv);simp(maxSteps:=400000)only[↓aT,aU,BEq.rfl,reduceIte,reduceCtorEq,Nat.reduceLT,reduceAdd,reduceSub,reduceMul,Nat.reduceBEq,reduceLeDiff,reduceToNat,reduceLE,hQ,↓m_,↓kR,↓Cg,hs',hg',bO,bP,bY,Jg,Jh,ic,hEe,hX,dS,hM',hr2]
     repeat' (first | omega | exact hpf | exact hpt | exact rfl | refine ⟨?_,?_⟩)
def lN:dF:=fun args objs K=>match args with
 | [a0,.bool above]=>fB ay a0 (HK.mk:HK fun n=>(MZ n)∧K (dL n above) objs 0)
 | _=>False
theorem JB:aB Tryz.prog 98 (lN):=by
 intro args objs K h
 unfold lN at h
 split at h
 · rename_i a0 above
   obtain ⟨n,rfl,h1,hk⟩:=h
   exact ⟨_,_,_,.pure _ rfl (Ij n above h1),hk⟩
 · exact h.elim
theorem U2 (objs:List Obj) (K:KT):(∀ k,bF D 27 [(0,.int .i64 k)] objs K=K (ay ⟨k,0,[],[],false,0⟩) objs 0)∧(∀ k s,bF D 27 [(0,.int .i64 k),(3,.str s)] objs K=K (ay ⟨k,0,[],s,false,0⟩) objs 0):=by
 have z:aI (D 27)=ay ⟨0,0,[],[],false,0⟩:=by kernel_rfl
 have a:(D 27).agg=true:=by kernel_rfl
 simp only [bM] at z a
 refine ⟨fun k=>?_,fun k s=>?_⟩
 all_goals
  simp [bF,lJ,a,z,bM,mr,ay,PV.isAgg,qi,PV.cells,PV.storable,PV.lV,PV.pure]
def E_:List Nd:=[⟨0,0,[],[],false,0⟩,⟨1,0,[],[],false,0⟩,⟨2,0,[],[],false,0⟩,⟨3,0,[],[],false,0⟩]
theorem TR (v:Vl) (ver:Nat) (t:TypeId) (rest:List Obj):eY 1 0 (⟨t,6,v.map ay,true,ver⟩::rest) (.bG 0 ver)=aS v:=Ws v ver t rest
theorem xb {n i:Nat}(h:n≤1000000) (hi:i≤1000000):((n+1)*64≤140737488355328∧n≤9223372036854775806)∧((n+1+1)*64≤140737488355328∧n≤9223372036854775805)∧
  ((n+1+1+1)*64≤140737488355328∧n≤9223372036854775804)∧(-9223372036854775808≤(i:Int)+1∧(i:Int)+1≤9223372036854775807):=by omega
theorem M9 (l:List fQ) (hl:l.length≤100000) (hn:∀ a ∈ l,a.c.kind=3→MZ a.c) (hs:∀ a ∈ l,a.c.s.length≤1000000000):ai Tryz.prog 71 [bf l] [] (aS (g_ l)) []:=by
 refine tQ.bg (T:=aR Tryz.prog [(98,lN)]) 1 hD (aj (af JB ah)) a_ (by decide) fun Q hQ=>?_
 (conv=>arg 4;cbv);simp(maxSteps:=400000)only[↓aT,aU,BEq.rfl,reduceIte,reduceCtorEq,Nat.reduceLT,reduceAdd,reduceSub,reduceMul,Nat.reduceBEq,reduceLeDiff,reduceToNat,reduceLE,hQ,U2,Jg,Jh]
 refine aH (fun m S=>∃ i ver:Nat,i+m=l.length∧S=⟨dI 98 [(0,bf l),(3,.bG 0 ver),(4,.int .i64 i)],[⟨27,6,(E_++jZ (l.take i)).map ay,true,ver⟩]⟩) l.length ⟨0,1,by omega,?_⟩ ?_ (hz:=Nat.zero_le _)
 · simp only [bW,keepR,reduceAdd,nu,Nat.reduceBEq,map_nil]
   rfl
 rintro m S ⟨i,ver,him,rfl⟩
 have zi:(0≤(i:Int))=True:=eq_true (by omega)
 have hcl:=tY (l.take i)
 rw [List.length_take] at hcl
 rcases lt_or_ge i l.length with h | h
 · have hlt:((i:Int)<(l.length:Int))=True:=eq_true (by omega)
   have hgi:=List.getElem?_eq_getElem h
   have hni:=hn _ (getElem_mem h)
   generalize l[i]=a at hgi hni
   have htk:=Ic hgi
   have hA:∀ (A B:List Nd),A.map ay++B.map ay=(A++B).map ay:=fun A B=>by rw [List.map_append]
   by_cases hk:a.c.kind=3
   rotate_left 1
   · have hk':=eq_false hk
     have e1:Ch a=[]:=if_neg hk
     rw [e1,append_nil] at htk
     simp(maxSteps:=400000)only[↓aT,aU,BEq.rfl,reduceIte,reduceCtorEq,Nat.reduceLT,reduceAdd,reduceSub,reduceMul,Nat.reduceBEq,reduceLeDiff,reduceToNat,reduceLE,hQ,hlt,zi,hgi,hk',WW,take_succ_cons,take_zero,qA]
     exact ⟨⟨by omega,by omega⟩,m-1,by omega,i+1,ver,by omega,by rw [htk,Int.natCast_add,Int.natCast_one]⟩
   have hk':=eq_true hk
   have hnr:=hni hk
   have e1:=DU hk
   generalize hX:E_++jZ (l.take i)=X at *
   have hXl:X.length≤1000000:=by rw [← hX,length_append];have:E_.length=4:=rfl;omega
   have hX':E_++jZ (l.take (i+1))=X++Ch a:=by rw [htk,← append_assoc,hX]
   have s1:∀ x:Nd,X.map ay++[ay x]=(X++[x]).map ay:=fun x=>by simp
   have fin:∀ (v:Nat) (Y:List Nd),E_++jZ (l.take (i+1))=Y→∃ m',m'<m∧∃ FI ace:Nat,FI+m'=l.length∧(⟨dI 98 [(0,bf l),(3,.bG 0 v),(4,.int .i64 ((i:Int)+1))],[⟨27,6,Y.map ay,true,v⟩]⟩:St)=⟨dI 98 [(0,bf l),(3,.bG 0 ace),(4,.int .i64 FI)],[⟨27,6,(E_++jZ (l.take FI)).map ay,true,ace⟩]⟩:=fun v Y hy=>
    ⟨m-1,by omega,i+1,v,by omega,by rw [hy,Int.natCast_add,Int.natCast_one]⟩
   rw [e1] at hX'
   obtain ⟨x1,x2,x3,iw⟩:=xb hXl (Nat.le_trans (Nat.le_of_lt h) (Nat.le_trans hl (by decide:100000≤1000000)))
   cases hb1:(dw a.c true).2 with
   | false=>
    cases hb2:(dw a.c false).2 with
    | false=>
     have hX2:=hX'
     simp only [FR,hb1,hb2,Bool.false_eq_true,if_true,if_false,append_nil] at hX2
     simp(maxSteps:=400000)only[↓aT,aU,BEq.rfl,reduceIte,reduceCtorEq,Nat.reduceLT,reduceAdd,reduceSub,reduceMul,Nat.reduceBEq,reduceLeDiff,reduceToNat,reduceLE,hQ,hlt,zi,hgi,hk',↓lN,dL,ic,hb1,hb2,bO,bP,bY,Jg,Jh,vT,WW,take_succ_cons,take_zero,qA,length_append,length_cons,length_nil]
     exact ⟨x1.1,x1.2,hnr,hnr,iw,fin _ _ (by rw [hX2])⟩
    | true=>
     have hX2:=hX'
     simp only [FR,hb1,hb2,Bool.false_eq_true,if_true,if_false,append_nil] at hX2
     simp(maxSteps:=400000)only[↓aT,aU,BEq.rfl,reduceIte,reduceCtorEq,Nat.reduceLT,reduceAdd,reduceSub,reduceMul,Nat.reduceBEq,reduceLeDiff,reduceToNat,reduceLE,hQ,hlt,zi,hgi,hk',↓lN,dL,ic,hb1,hb2,bO,bP,bY,Jg,Jh,vT,WW,take_succ_cons,take_zero,qA,length_append,length_cons,length_nil]
     exact ⟨x1.1,x1.2,hnr,hnr,x2.1,x2.2,iw,fin _ _ (by rw [hX2];simp only [append_assoc])⟩
   | true=>
    cases hb2:(dw a.c false).2 with
    | false=>
     have hX2:=hX'
     simp only [FR,hb1,hb2,Bool.false_eq_true,if_true,if_false,append_nil] at hX2
     simp(maxSteps:=400000)only[↓aT,aU,BEq.rfl,reduceIte,reduceCtorEq,Nat.reduceLT,reduceAdd,reduceSub,reduceMul,Nat.reduceBEq,reduceLeDiff,reduceToNat,reduceLE,hQ,hlt,zi,hgi,hk',↓lN,dL,ic,hb1,hb2,bO,bP,bY,Jg,Jh,vT,WW,take_succ_cons,take_zero,qA,length_append,length_cons,length_nil]
     exact ⟨x1.1,x1.2,hnr,x2.1,x2.2,hnr,iw,fin _ _ (by rw [hX2];simp only [append_assoc])⟩
    | true=>
     have hX2:=hX'
     simp only [FR,hb1,hb2,Bool.false_eq_true,if_true,if_false,append_nil] at hX2
     simp(maxSteps:=400000)only[↓aT,aU,BEq.rfl,reduceIte,reduceCtorEq,Nat.reduceLT,reduceAdd,reduceSub,reduceMul,Nat.reduceBEq,reduceLeDiff,reduceToNat,reduceLE,hQ,hlt,zi,hgi,hk',↓lN,dL,ic,hb1,hb2,bO,bP,bY,Jg,Jh,vT,WW,take_succ_cons,take_zero,qA,length_append,length_cons,length_nil]
     exact ⟨x1.1,x1.2,hnr,x2.1,x2.2,hnr,x3.1,x3.2,iw,fin _ _ (by rw [hX2];simp only [append_assoc])⟩
 have hi:i=l.length:=by omega
 subst hi
 have hlt:((l.length:Int)<(l.length:Int))=False:=eq_false (by omega)
 rw [List.take_of_length_le (Nat.le_refl _)]
 rw [List.take_of_length_le (Nat.le_refl _)] at hcl
 simp(maxSteps:=400000)only[↓aT,aU,BEq.rfl,reduceIte,reduceCtorEq,Nat.reduceLT,reduceAdd,reduceSub,reduceMul,Nat.reduceBEq,reduceLeDiff,reduceToNat,reduceLE,hQ,hlt,U2,Jg,Jh]
 have hc0:E_.length=4:=rfl
 have hY:(E_++jZ l).map ay++[ay ⟨4,0,[],[],false,0⟩]=(E_++jZ l++[(⟨4,0,[],[],false,0⟩:Nd)]).map ay:=by simp
 rw [hY]
 refine ⟨by omega,by omega,?_⟩
 generalize hX:E_++jZ l++[(⟨4,0,[],[],false,0⟩:Nd)]=X
 have hXl:X.length≤300005:=by rw [← hX];simp [E_];omega
 refine aH (fun m S=>∃ i ver:Nat,i+m=l.length∧S=⟨dI 98 [(0,bf l),(3,.bG 0 ver),(9,.int .i64 i)],[⟨27,6,(X++lT (l.take i)).map ay,true,ver⟩]⟩) l.length ⟨0,ver+1,by omega,?_⟩ ?_
 · simp only [bW,keepR,reduceAdd,nu,Nat.reduceBEq,map_nil]
   simp [lT]
 rintro m' S ⟨i,Jt,him',rfl⟩
 have zi:(0≤(i:Int))=True:=eq_true (by omega)
 have hsl:=yC (l.take i)
 rw [List.length_take] at hsl
 rcases lt_or_ge i l.length with h' | h'
 · have hlt:((i:Int)<(l.length:Int))=True:=eq_true (by omega)
   have hgi:=List.getElem?_eq_getElem h'
   have hsi:=hs _ (getElem_mem h')
   generalize l[i]=a at hgi hsi
   have htk:=Ie hgi
   by_cases hk:a.c.kind=4
   · have hk':=eq_true hk
     have e1:Ci a=[a.c,⟨4,0,[],a.c.s++[0],false,0⟩]:=if_pos hk
     simp(maxSteps:=400000)only[↓aT,aU,BEq.rfl,reduceIte,reduceCtorEq,Nat.reduceLT,reduceAdd,reduceSub,reduceMul,Nat.reduceBEq,reduceLeDiff,reduceToNat,reduceLE,hQ,hlt,zi,hgi,hk',U2,Jg,Jh]
     have hrow:∀ y,y ∈ [ay a.c,ay ⟨4,0,[],a.c.s++[0],false,0⟩]→y.cells.length=6∧y.cells.all PV.storable=true:=fun y hy=>by
      simp only [List.mem_cons,List.not_mem_nil,or_false] at hy
      rcases hy with rfl | rfl <;> exact ⟨rfl,rfl⟩
     have hXs:X.length+(lT (l.take i)).length≤600000:=by omega
     exact ⟨by omega,hrow,by omega,by omega,rfl,⟨by omega,by omega⟩,m'-1,by omega,i+1,Jt+1,by omega,by
      rw [htk,e1,← append_assoc,List.map_append (l₁:=X++lT _),Int.natCast_add,Int.natCast_one];rfl⟩
   · have hk':=eq_false hk
     have e1:Ci a=[]:=if_neg hk
     rw [e1,append_nil] at htk
     simp(maxSteps:=400000)only[↓aT,aU,BEq.rfl,reduceIte,reduceCtorEq,Nat.reduceLT,reduceAdd,reduceSub,reduceMul,Nat.reduceBEq,reduceLeDiff,reduceToNat,reduceLE,hQ,hlt,zi,hgi,hk',U2,Jg,Jh]
     repeat' (first | omega | exact ⟨m'-1,by omega,i+1,Jt,by omega,by rw [htk];rfl⟩ | refine ⟨?_,?_⟩)
 · have hlt:((i:Int)<(l.length:Int))=False:=eq_false (by omega)
   have hr:g_ l=X++lT (l.take i):=by
    rw [List.take_of_length_le h',← hX];simp [g_,E_]
   simp(maxSteps:=400000)only[↓aT,aU,BEq.rfl,reduceIte,reduceCtorEq,Nat.reduceLT,reduceAdd,reduceSub,reduceMul,Nat.reduceBEq,reduceLeDiff,reduceToNat,reduceLE,hQ,hlt,TR,hr]
def Cn:dF:=fun args objs K=>match args with
 | [a0]=>fB bf a0 (HK.mk:HK fun l=>(l.length≤100000)∧(∀ a ∈ l,a.c.kind=3→MZ a.c)∧(∀ a ∈ l,a.c.s.length≤1000000000)∧K (aS (g_ l)) objs 0)
 | _=>False
theorem Qj:aB Tryz.prog 71 (Cn):=by
 intro args objs K h
 unfold Cn at h
 split at h
 · rename_i a0
   obtain ⟨l,rfl,h1,h2,h3,hk⟩:=h
   exact ⟨_,_,_,.pure _ rfl (M9 l h1 h2 h3),hk⟩
 · exact h.elim
def xD:dF:=fun args objs K=>match args with
 | [.int .i64 mask,a1,a2]=>fB bf a1 (HK.mk:HK fun l=>fB ay a2 (HK.mk:HK fun n=>(0≤mask∧mask≤31)∧(l.length≤1000000)∧(∀ a ∈ l,fe a.c)∧(pO n)∧(n.s.length≤1000000)∧K (.bool (cO mask l n)) objs 0))
 | _=>False
theorem Qk:aB Tryz.prog 40 (xD):=by
 intro args objs K h
 unfold xD at h
 split at h
 · rename_i mask a1 a2
   obtain ⟨l,rfl,n,rfl,h1,h2,h3,h4,h5,hk⟩:=h
   exact ⟨_,_,_,.pure _ rfl (ML mask l n ⟨h1.1,by omega⟩ h2 h3 h4 h5),hk⟩
 · exact h.elim
theorem JC (mask:Int) (l:List fQ) (hm:0≤mask∧mask≤31) (hl:l.length≤100000) (hc:∀ a ∈ l,fe a.c) (hs:∀ a ∈ l,a.c.s.length≤500000):ai Tryz.prog 37 [.int .i64 mask,bf l] [] (kI mask l) []:=by
 refine Al.Ib (T:=aR Tryz.prog [(71,Cn),(40,xD)]) 0 hD (aj (af Qj (af Qk ah))) a_ (by decide) (by decide) fun Q hQ=>?_
 have hcs:=Ii hc hs
 have hnr:∀ a ∈ l,a.c.kind=3→MZ a.c:=fun a ha hk=>(hc a ha).num hk
 have hsb:∀ a ∈ l,a.c.s.length≤1000000000:=fun a ha=>by have:=hs a ha;omega
 have hcl:(g_ l).length≤1000000:=by
  have h1:=tY l
  have h2:=yC l
  simp only [g_,length_append,length_cons,length_nil];omega
 (conv=>arg 4;cbv);simp(maxSteps:=400000)only[↓aT,aU,BEq.rfl,reduceIte,reduceCtorEq,Nat.reduceLT,reduceAdd,reduceSub,reduceMul,Nat.reduceBEq,reduceLeDiff,reduceToNat,reduceLE,hQ,↓Cn,bO,bP]
 refine ⟨hl,hnr,hsb,?_⟩
 refine aH (fun m S=>∃ i:Nat,i+m=(g_ l).length∧(∀ (j:Nat) d,j<i→(g_ l)[j]?=some d→cO mask l d=false)∧S=⟨dI 28 [(0,.int .i64 mask),(1,bf l),(4,.bI 0 1 0 0),(6,aS (g_ l)),(7,.int .i64 i)],[⟨27,6,[ay ⟨0,0,[],[],false,0⟩],true,1⟩]⟩) (g_ l).length ⟨0,by omega,fun j d h=>absurd h (Nat.not_lt_zero j),?_⟩ ?_
 · simp only [bW,keepR,reduceAdd,nu,Nat.reduceBEq,map_nil]
   rfl
 rintro m S ⟨i,him,hb,rfl⟩
 have zi:(0≤(i:Int))=True:=eq_true (by omega)
 rcases lt_or_ge i (g_ l).length with h | h
 · have hlt:((i:Int)<((g_ l).length:Int))=True:=eq_true (by omega)
   have hgi:=List.getElem?_eq_getElem h
   have hsi:=hcs _ (getElem_mem h)
   generalize (g_ l)[i]=c at hgi hsi
   cases hmem:cO mask l c with
   | true=>
    have hr:kI mask l=.b_ [ay c,.bool true]:=by simp [kI,KN hgi hmem hb]
    simp(maxSteps:=400000)only[↓aT,aU,BEq.rfl,reduceIte,reduceCtorEq,Nat.reduceLT,reduceAdd,reduceSub,reduceMul,Nat.reduceBEq,reduceLeDiff,reduceToNat,reduceLE,hQ,hlt,zi,hgi,↓xD,hmem,bO,bP,bY,Jg,Jh,hr]
    repeat' (first | omega | exact hc | exact hsi.1 | exact rfl | refine ⟨?_,?_⟩)
   | false=>
    have hb':∀ (j:Nat) d,j<i+1→(g_ l)[j]?=some d→cO mask l d=false:=fun j d hj hd=>by
     rcases lt_or_ge j i with g | g
     · exact hb j d g hd
     · have:j=i:=by omega
       subst this
       rw [hgi] at hd;cases hd;exact hmem
    simp(maxSteps:=400000)only[↓aT,aU,BEq.rfl,reduceIte,reduceCtorEq,Nat.reduceLT,reduceAdd,reduceSub,reduceMul,Nat.reduceBEq,reduceLeDiff,reduceToNat,reduceLE,hQ,hlt,zi,hgi,↓xD,hmem,bO,bP,bY,Jg,Jh]
    repeat' (first | omega | exact hc | exact hsi.1 | exact ⟨m-1,by omega,i+1,by omega,hb',rfl⟩ | refine ⟨?_,?_⟩)
 · have hlt:((i:Int)<((g_ l).length:Int))=False:=eq_false (by omega)
   have hr:kI mask l=.b_ [ay ⟨0,0,[],[],false,0⟩,.bool false]:=by
    have:=Ih (mask:=mask) (l:=l) fun j d hd=>hb j d (by have:=(List.getElem?_eq_some_iff.1 hd).1;omega) hd
    simp [kI,this,aM]
   simp(maxSteps:=400000)only[↓aT,aU,BEq.rfl,reduceIte,reduceCtorEq,Nat.reduceLT,reduceAdd,reduceSub,reduceMul,Nat.reduceBEq,reduceLeDiff,reduceToNat,reduceLE,hQ,hlt,bO,bP,Jg,Jh,hr]
   repeat' (first | omega | exact rfl | refine ⟨?_,?_⟩)
def tZ:dF:=fun args objs K=>match args with
 | [.int .i64 mask,a1]=>fB bf a1 (HK.mk:HK fun l=>(0≤mask∧mask≤31)∧(l.length≤100000)∧(∀ a ∈ l,fe a.c)∧(∀ a ∈ l,a.c.s.length≤500000)∧K (kI mask l) objs 0)
 | _=>False
theorem M_:aB Tryz.prog 37 (tZ):=by
 intro args objs K h
 unfold tZ at h
 split at h
 · rename_i mask a1
   obtain ⟨l,rfl,h1,h2,h3,h4,hk⟩:=h
   exact ⟨_,_,_,.pure _ rfl (JC mask l h1 h2 h3 h4),hk⟩
 · exact h.elim
end Lp
namespace Lp
open Go Go.Proofs
open Nat (reduceAdd reduceLeDiff reduceMul reduceSub)
open Int (reduceLE reduceToNat toNat_natCast)
theorem KO {a:fQ}(h:gG a=true) (hs:a.c.s.length≤500000):fe a.c:=by
 simp only [gG,Bool.and_eq_true] at h
 exact ⟨h.2,by omega⟩
theorem Ql (t:aC) (hs:qF t) (hl5:t.length≤100000) (hc:∀ n ∈ t,n.c.s.length≤500000):ai Tryz.prog 16 [aA t] [] (.bool (o_ t)) []:=by
 have hl:=hs.len
 refine Cb.bg (T:=aR Tryz.prog [(14,qG),(38,mY),(37,tZ)]) 0 hD (aj (af Jz (af EY (af M_ ah)))) a_ (by decide) fun Q hQ=>?_
 cases hr:fG t with
 | false=>
  have hg:o_ t=false:=by simp [o_,hr]
  (conv=>arg 4;cbv);simp(maxSteps:=400000)only[↓av,ax,BEq.rfl,reduceIte,reduceCtorEq,Nat.reduceLT,reduceAdd,reduceSub,reduceMul,Nat.reduceBEq,reduceLeDiff,reduceToNat,reduceLE,hQ,↓qG,hr,hg]
  exact hs
 | true=>
  have hrt:=tT hr
  have ho:=hrt.one
  have hg:o_ t=Y.fH IJ t:=by simp [o_,hr]
  (conv=>arg 4;cbv);simp(maxSteps:=400000)only[↓av,ax,BEq.rfl,reduceIte,reduceCtorEq,Nat.reduceLT,reduceAdd,reduceSub,reduceMul,Nat.reduceBEq,reduceLeDiff,reduceToNat,reduceLE,hQ,↓qG,hr]
  refine ⟨hs,?_⟩
  refine aH (fun m S=>∃ i:Nat,i+m=t.length∧Y.fH IJ (t.drop i)=o_ t∧S=⟨dI 35 [(0,aA t),(3,.int .i64 i)],[]⟩) t.length (hz:=Nat.zero_le _) ⟨0,by omega,by rw [hg];rfl,?_⟩ ?_
  · simp only [bW,keepR,reduceAdd,nu,Nat.reduceBEq,List.map_nil]
    rfl
  rintro m S ⟨i,him,hgd,rfl⟩
  rcases Nat.lt_or_ge i t.length with h | h
  · have hgi:=List.getElem?_eq_getElem h
    have hcx:=hc _ (List.getElem_mem h)
    generalize t[i]=n at hgi hcx
    have hd:=Tg hgi
    rw [hgd] at hd
    have zi:(0≤(i:Int))=True:=eq_true (by omega)
    have hlt:((i:Int)<(t.length:Int))=True:=eq_true (by omega)
    have next:o_ t=Y.fH IJ (t.drop (i+1))→∃ m',m'<m∧∃ FI:Nat,FI+m'=t.length∧Y.fH IJ (t.drop FI)=o_ t∧(⟨dI 35 [(0,aA t),(3,.int .i64 ((i:Int)+1))],[]⟩:St)=⟨dI 35 [(0,aA t),(3,.int .i64 FI)],[]⟩:=fun e=>
     ⟨m-1,by omega,i+1,by omega,e.symm,rfl⟩
    by_cases hk:n.kind=1
    rotate_left 1
    · have hk':=eq_false hk
      have hla:yB t i=true:=by
       obtain ⟨ps,c,_,_,h3,_⟩:=Y.r9 ho hgi
       have hd0:=List.drop_eq_getElem_cons h
       rw [List.getElem?_eq_getElem h] at hgi
       cases hgi
       simp only [yB,hd0,h3,IJ]
       simp [hk]
      rw [hla,Bool.true_and] at hd
      have hst:=next hd
      simp(maxSteps:=400000)only[↓av,ax,BEq.rfl,reduceIte,reduceCtorEq,Nat.reduceLT,reduceAdd,reduceSub,reduceMul,Nat.reduceBEq,reduceLeDiff,reduceToNat,reduceLE,hQ,hlt,zi,hgi,hk']
      repeat' (first | omega | exact hst | refine ⟨?_,?_⟩)
    · have hk':=eq_true hk
      obtain ⟨ps,p1,p2,p3,p4,p5,p6,p7⟩:=UY hrt hgi hk
      have hat:n_ t i=ps.flatten.map iM:=by simp only [n_,hgi,hk,if_true,p2]
      have hal:(n_ t i).length≤100000:=by rw [hat,List.length_map,p2,List.length_take,List.length_drop];omega
      have hmem:∀ x ∈ ps.flatten,x ∈ t:=fun x hx=>by rw [p2] at hx;exact List.mem_of_mem_drop (List.mem_of_mem_take hx)
      have hsm:∀ a ∈ n_ t i,a.c.s.length≤500000:=fun a ha=>by
       rw [hat] at ha
       obtain ⟨x,hx,rfl⟩:=List.mem_map.1 ha
       exact hc x (hmem x hx)
      have hcm:∀ a ∈ n_ t i,fe a.c:=fun a ha=>by
       have hsa:=hsm a ha
       rw [hat] at ha
       obtain ⟨x,hx,rfl⟩:=List.mem_map.1 ha
       exact KO (p7 x hx) hsa
      have hla:yB t i=(kS n.n (n_ t i)).2:=by
       have hd0:=List.drop_eq_getElem_cons h
       have hx:=hgi
       rw [List.getElem?_eq_getElem h] at hx
       cases hx
       simp only [yB,hd0,p1,IJ,hat]
       simp [hk]
      rw [hla] at hd
      cases hls:(kS n.n (n_ t i)).2 with
      | false=>
       rw [hls] at hd
       have hr2:o_ t=false:=by rw [hd];rfl
       simp(maxSteps:=400000)only[↓av,ax,BEq.rfl,reduceIte,reduceCtorEq,Nat.reduceLT,reduceAdd,reduceSub,reduceMul,Nat.reduceBEq,reduceLeDiff,reduceToNat,reduceLE,hQ,hlt,zi,hgi,hk',↓mY,toNat_natCast,↓tZ,kI,ic,bO,bP,Jg,Jh,hls,hr2]
       repeat' (first | omega | exact hcm | exact hsm | exact ho | exact rfl | refine ⟨?_,?_⟩)
      | true=>
       rw [hls,Bool.true_and] at hd
       have hst:=next hd
       simp(maxSteps:=400000)only[↓av,ax,BEq.rfl,reduceIte,reduceCtorEq,Nat.reduceLT,reduceAdd,reduceSub,reduceMul,Nat.reduceBEq,reduceLeDiff,reduceToNat,reduceLE,hQ,hlt,zi,hgi,hk',↓mY,toNat_natCast,↓tZ,kI,ic,bO,bP,Jg,Jh,hls]
       repeat' (first | omega | exact hcm | exact hsm | exact ho | exact hst | exact rfl | refine ⟨?_,?_⟩)
  · have hlt:((i:Int)<(t.length:Int))=False:=eq_false (by omega)
    have hr2:o_ t=true:=by rw [← hgd,List.drop_eq_nil_of_le h];rfl
    simp(maxSteps:=400000)only[↓av,ax,BEq.rfl,reduceIte,reduceCtorEq,Nat.reduceLT,reduceAdd,reduceSub,reduceMul,Nat.reduceBEq,reduceLeDiff,reduceToNat,reduceLE,hQ,hlt,hr2]
def nW:dF:=fun args objs K=>match args with
 | [a0]=>fB aA a0 (HK.mk:HK fun t=>(qF t)∧(t.length≤100000)∧(∀ n ∈ t,n.c.s.length≤500000)∧K (.bool (o_ t)) objs 0)
 | _=>False
theorem Co:aB Tryz.prog 16 (nW):=by
 intro args objs K h
 unfold nW at h
 split at h
 · rename_i a0
   obtain ⟨t,rfl,h1,h2,h3,hk⟩:=h
   exact ⟨_,_,_,.pure _ rfl (Ql t h1 h2 h3),hk⟩
 · exact h.elim
def JD (t:aC) (k:Nat):Bool:=decide (t.length≤k) && t.all jV && o_ t
theorem TS (t:aC) (k:Nat) (hk:k≤100000) (hl:t.length≤4611686018427387904) (htx:∀ n ∈ t,n.s.length≤4611686018427387904∧n.name.length≤4611686018427387904∧n.c.s.length≤4611686018427387904) (hcn:∀ n ∈ t,n.c.name.length≤4611686018427387904) :
  ai Tryz.prog 7 [aA t,.int .i64 k] [] (.bool (JD t k)) []:=by
 refine DT.bg (T:=aR Tryz.prog [(24,qD),(16,nW)]) 0 hD (aj (af Jw (af Co ah))) a_ (by decide) fun Q hQ=>?_
 cases hsh:(decide (t.length≤k) && t.all jV) with
 | false=>
  have hr:JD t k=false:=by simp only [JD,hsh,Bool.false_and]
  (conv=>arg 4;cbv);simp(maxSteps:=400000)only[↓av,ax,BEq.rfl,reduceIte,reduceCtorEq,Nat.reduceLT,reduceAdd,reduceSub,reduceMul,Nat.reduceBEq,reduceLeDiff,reduceToNat,reduceLE,hQ,↓qD,toNat_natCast,hsh,hr]
  repeat' (first | omega | exact htx | refine ⟨?_,?_⟩)
 | true=>
  have hr:JD t k=o_ t:=by simp only [JD,hsh,Bool.true_and]
  simp only [Bool.and_eq_true,decide_eq_true_eq,List.all_eq_true] at hsh
  have hsh':(decide (t.length≤k) && t.all jV)=true:=by simp only [Bool.and_eq_true,decide_eq_true_eq,List.all_eq_true];exact hsh
  have hs1:∀ n ∈ t,n.s.length≤100∧n.name.length≤100∧n.c.s.length≤100:=fun n hn=>by
   have:=hsh.2 n hn
   simp only [jV,Bool.and_eq_true,decide_eq_true_eq] at this
   exact ⟨this.1.1,this.1.2,this.2⟩
  have hsm:qF t:=⟨by omega,fun n hn=>by have:=hs1 n hn;exact ⟨by omega,by omega,⟨by omega,hcn n hn⟩⟩⟩
  have hcs:∀ n ∈ t,n.c.s.length≤500000:=fun n hn=>by have:=hs1 n hn;omega
  (conv=>arg 4;cbv);simp(maxSteps:=400000)only[↓av,ax,BEq.rfl,reduceIte,reduceCtorEq,Nat.reduceLT,reduceAdd,reduceSub,reduceMul,Nat.reduceBEq,reduceLeDiff,reduceToNat,reduceLE,hQ,↓qD,toNat_natCast,hsh',↓nW,hr]
  have hl5:t.length≤100000:=by omega
  repeat' (first | omega | exact htx | exact hsm | exact hcs | refine ⟨?_,?_⟩)
def t_:dF:=fun args objs K=>match args with
 | [a0,.int .i64 k]=>fB aA a0 (HK.mk:HK fun t=>(0≤k∧k≤100000)∧(t.length≤4611686018427387904)∧(∀ n ∈ t,n.s.length≤4611686018427387904∧n.name.length≤4611686018427387904∧n.c.s.length≤4611686018427387904)∧(∀ n ∈ t,n.c.name.length≤4611686018427387904)∧K (.bool (JD t k.toNat)) objs 0)
 | _=>False
theorem Qn:aB Tryz.prog 7 (t_):=by
 intro args objs K h
 unfold t_ at h
 split at h
 · rename_i a0 k
   obtain ⟨t,rfl,h1,h2,h3,h4,hk⟩:=h
   exact ⟨_,_,_,.pure _ rfl ((by have:=TS t k.toNat (by omega) h2 h3 h4;rwa [Int.toNat_of_nonneg h1.1] at this)),hk⟩
 · exact h.elim
end Lp
namespace Lp
open Go Go.Proofs
open Nat (reduceAdd reduceLeDiff reduceMul reduceSub)
open Int (reduceLE reduceToNat)
def v_ (l:List aC) (ver:Nat):Obj:=⟨23,1,l.map aA,true,ver⟩
theorem DV (f:PV→PV) (hf:∀ l,f (aA l)=aA l) (D:List aC):(D.map aA).map (PV.bJ f)=D.map aA:=by
 rw [List.map_map]
 exact List.map_congr_left fun x _=>hf x
theorem Ik (f:PV→PV) (hf:∀ x:dY,(aL x).bJ f=aL x) (D:aC):(D.map aL).map (PV.bJ f)=D.map aL:=by
 rw [List.map_map]
 exact List.map_congr_left fun x _=>hf x
theorem Qo (d n:Nat) (X:List Obj) (T:TypeId) (D:List aC) (u:Nat):fE d n X ⟨T,1,D.map aA,true,u⟩=⟨T,1,D.map aA,true,u⟩:=by
 simp only [fE,DV (eY d n X) (fun _=>rfl)]
theorem qI (t:aC) (ho:Y.One t):∃ n r ps,t=n::r∧0≤n.many∧Y.parts n.many.toNat r=some ps∧ps.flatten=r∧(∀ p ∈ ps,Y.One p)∧Y.partsOf n r=ps∧n.many=(ps.length:Int)∧ps.length≤r.length:=by
 obtain ⟨n,r,rfl⟩:∃ n r,t=n::r:=by
  cases t with
  | nil=>exact absurd rfl ho.ne
  | cons n r=>exact ⟨n,r,rfl⟩
 obtain ⟨hm,ps,h1,h2,h3⟩:=ho.parts
 have hl:=Y.bS _ _ _ h1
 exact ⟨n,r,ps,rfl,hm,h1,h2,h3,by simp [Y.partsOf,h1],by omega,by have:=Y.eO _ _ _ h1;omega⟩
theorem Qp (a b:aC) (ha:a.length≤1000000) (hb:b.length≤1000000):ai Tryz.prog 13 [aA a,aA b] [] (.bool (decide (a=b))) []:=by
 refine Ce.bg (T:=aR Tryz.prog []) 0 hD (aj ah) a_ (by decide) fun Q hQ=>?_
 by_cases hl:a.length=b.length
 rotate_left 1
 · have hl':((a.length:Int)=(b.length:Int))=False:=eq_false (by omega)
   have hr:decide (a=b)=false:=decide_eq_false fun h=>hl (by rw [h])
   (conv=>arg 4;cbv);simp(maxSteps:=400000)only[↓av,ax,BEq.rfl,reduceIte,reduceCtorEq,Nat.reduceLT,reduceAdd,reduceSub,reduceMul,Nat.reduceBEq,reduceLeDiff,reduceToNat,reduceLE,hQ,hl',hr]
 have hl':((a.length:Int)=(b.length:Int))=True:=eq_true (by omega)
 (conv=>arg 4;cbv);simp(maxSteps:=400000)only[↓av,ax,BEq.rfl,reduceIte,reduceCtorEq,Nat.reduceLT,reduceAdd,reduceSub,reduceMul,Nat.reduceBEq,reduceLeDiff,reduceToNat,reduceLE,hQ,hl']
 refine aH (fun m S=>∃ i:Nat,i+m=a.length∧(∀ j,j<i→a[j]?=b[j]?)∧S=⟨dI 26 [(0,aA a),(1,aA b),(5,.int .i64 i)],[]⟩) a.length ⟨0,by omega,fun j h=>absurd h (by omega),?_⟩ ?_
 · simp only [bW,keepR,reduceAdd,nu,Nat.reduceBEq,List.map_nil]
   rfl
 rintro m S ⟨i,him,hj,rfl⟩
 have zi:(0≤(i:Int))=True:=eq_true (by omega)
 rcases Nat.lt_or_ge i a.length with h | h
 rotate_left 1
 · have hlt:((i:Int)<(a.length:Int))=False:=eq_false (by omega)
   have hab:a=b:=List.ext_getElem? fun j=>by
    by_cases hji:j<i
    · exact hj j hji
    · rw [List.getElem?_eq_none (by omega),List.getElem?_eq_none (by omega)]
   have hr:decide (a=b)=true:=decide_eq_true hab
   simp(maxSteps:=400000)only[↓av,ax,BEq.rfl,reduceIte,reduceCtorEq,Nat.reduceLT,reduceAdd,reduceSub,reduceMul,Nat.reduceBEq,reduceLeDiff,reduceToNat,reduceLE,hQ,hlt,hr]
 have hlt:((i:Int)<(a.length:Int))=True:=eq_true (by omega)
 have ga:=List.getElem?_eq_getElem h
 have gb:b[i]?=some (b[i]'(by omega)):=List.getElem?_eq_getElem (by omega)
 generalize a[i]=x at ga
 generalize b[i]'(by omega)=y at gb
 by_cases hxy:x=y
 · have hxy':(x=y)=True:=eq_true hxy
   simp(maxSteps:=400000)only[↓av,ax,BEq.rfl,reduceIte,reduceCtorEq,Nat.reduceLT,reduceAdd,reduceSub,reduceMul,Nat.reduceBEq,reduceLeDiff,reduceToNat,reduceLE,hQ,hlt,zi,ga,gb,aep,hxy']
   refine ⟨⟨by omega,by omega⟩,m-1,by omega,i+1,by omega,?_,by simp⟩
   intro j hji
   by_cases hjj:j=i
   · subst hjj;rw [ga,gb,hxy]
   · exact hj j (by omega)
 · have hxy':(x=y)=False:=eq_false hxy
   have hr:decide (a=b)=false:=decide_eq_false fun h=>hxy (by rw [h,gb] at ga;exact (Option.some.inj ga).symm)
   simp(maxSteps:=400000)only[↓av,ax,BEq.rfl,reduceIte,reduceCtorEq,Nat.reduceLT,reduceAdd,reduceSub,reduceMul,Nat.reduceBEq,reduceLeDiff,reduceToNat,reduceLE,hQ,hlt,zi,ga,gb,aep,hxy',hr]
def yD:dF:=fun args objs K=>match args with
 | [a0,a1]=>fB aA a0 (HK.mk:HK fun a=>fB aA a1 (HK.mk:HK fun b=>(a.length≤1000000)∧(b.length≤1000000)∧K (.bool (decide (a=b))) objs 0))
 | _=>False
theorem Na:aB Tryz.prog 13 (yD):=by
 intro args objs K h
 unfold yD at h
 split at h
 · rename_i a0 a1
   obtain ⟨a,rfl,b,rfl,h1,h2,hk⟩:=h
   exact ⟨_,_,_,.pure _ rfl (Qp a b h1 h2),hk⟩
 · exact h.elim
end Lp
namespace Lp
open Go Go.Proofs
end Lp
namespace Lp
open Go Go.Proofs
open List (length_cons length_map mem_cons_of_mem)
structure zD (t:aC):Prop where
 rt:uG bq d_ t
 len:t.length≤100000
 cs:∀ n ∈ t,n.c.s.length≤500000
 nm:∀ n ∈ t,n.name.length≤4611686018427387904
theorem zD.part {n:dY}{r:aC}(h:zD (n::r)):∀ p ∈ aG (n::r),zD p∧p.length≤r.length:=by
 intro p hp
 have h1:=h.rt.part p hp
 have hl:=h.len
 simp only [length_cons] at hl
 refine ⟨⟨h1.1,by omega,?_,?_⟩,h1.2⟩
 all_goals
  by_cases hk:n.kind=1
  · simp only [aG,hk,if_true] at hp;cases hp
  simp only [aG,hk,if_false] at hp
  obtain ⟨_,_,ps,h3,h4,_⟩:=h.rt.parts
  rw [iF h3] at hp
  obtain ⟨q,hq,rfl⟩:=List.mem_map.1 hp
  have hr:∀ x ∈ q,x ∈ r:=fun x hx=>by rw [← h4];exact List.mem_flatten.2 ⟨q,hq,hx⟩
  intro x hx
  cases q with
  | nil=>cases hx
  | cons y z=>
   rcases List.mem_cons.1 hx with rfl | hx
   · first
      | exact h.cs y (mem_cons_of_mem _ (hr y (List.mem_cons_self ..)))
      | exact Nat.zero_le _
   · first
      | exact h.cs x (mem_cons_of_mem _ (hr x (mem_cons_of_mem _ hx)))
      | exact h.nm x (mem_cons_of_mem _ (hr x (mem_cons_of_mem _ hx)))
theorem zD.atoms {n:dY}{r:aC}(h:zD (n::r)) (hk:n.kind=1):(0≤n.n∧n.n≤31)∧(bT (n::r)).length≤100000∧(∀ a ∈ bT (n::r),fe a.c)∧(∀ a ∈ bT (n::r),a.c.s.length≤500000):=by
 obtain ⟨ps,p1,p2,p3,p4,p5,p6,p7⟩:=UY (i:=0) h.rt rfl hk
 have hl:=h.len
 simp only [length_cons,List.drop_succ_cons,List.drop_zero] at hl p1 p2 p4
 have ha:bT (n::r)=ps.flatten.map iM:=by simp only [bT,hk,if_true,p2]
 have hm:∀ x ∈ ps.flatten,x ∈ r:=fun x hx=>by rw [p2] at hx;exact List.mem_of_mem_take hx
 have hs:∀ a ∈ bT (n::r),a.c.s.length≤500000:=fun a h'=>by
  rw [ha] at h'
  obtain ⟨x,hx,rfl⟩:=List.mem_map.1 h'
  exact h.cs x (mem_cons_of_mem _ (hm x hx))
 refine ⟨⟨by omega,by omega⟩,?_,fun a h'=>?_,hs⟩
 · rw [ha,length_map,p2,List.length_take];omega
 · have h2:=hs a h'
   rw [ha] at h'
   obtain ⟨x,hx,rfl⟩:=List.mem_map.1 h'
   exact KO (p7 x hx) h2
theorem zD.names {n:dY}{r:aC}(h:zD (n::r)):(gP (n::r)).length≤100000∧∀ s ∈ gP (n::r),s.length≤4611686018427387904:=by
 have hl:=h.len
 simp only [length_cons] at hl
 by_cases hk:n.kind=2
 · obtain ⟨_,_,ps,h3,h4,_⟩:=h.rt.parts
   have e:gP (n::r)=ps.map Y.nameOf:=by simp only [gP,hk,if_true,iF h3]
   have h1:=D8 h.rt
   have e2:aG (n::r)=ps.map Y.j4:=by simp only [aG,hk,iF h3];rfl
   rw [e2,length_map] at h1
   rw [e]
   refine ⟨by rw [length_map];omega,fun s hs=>?_⟩
   obtain ⟨q,hq,rfl⟩:=List.mem_map.1 hs
   cases q with
   | nil=>exact Nat.zero_le _
   | cons y z=>exact h.nm y (mem_cons_of_mem _ (by rw [← h4];exact List.mem_flatten.2 ⟨_,hq,List.mem_cons_self ..⟩))
 · have e:gP (n::r)=[]:=by simp [gP,hk]
   rw [e];exact ⟨Nat.zero_le _,fun s hs=>by cases hs⟩
end Lp
namespace Lp
open Go Go.Proofs
open List (length_cons length_drop length_nil nil_append tail_drop)
open Nat (reduceAdd reduceLeDiff reduceMul reduceSub)
theorem Nb (v:aC) (i c:Nat) (hv:v.length≤4611686018427387904) (h:Y.skip (v.drop i) 1=some c):ai Tryz.prog 94 [aA v,.int .i64 i] [] (.int .i64 (i+c:Nat)) []:=by
 refine PY.pure (T:=aR Tryz.prog []) 0 hD (aj ah) a_ (by decide) ?_
 (conv=>arg 4;cbv);simp only [↓zO,El,↓Ba,↓yN,↓Bb,yO,↓mM,nk,jI,fw,Dk,reduceAdd,reduceSub,rq,bM,FD,FE,wS]
 refine aH (fun m S=>∃ (j k c':Nat),m=c'∧Y.skip (v.drop j) k=some c'∧j+c'=i+c∧S=⟨mkT 19 [(0,aA v),(1,.int .i64 j),(5,.int .i64 k)],[]⟩) c ⟨i,1,c,rfl,h,rfl,?_⟩ ?_
 · simp only [Q9,aA,rq];rfl
 rintro m S ⟨j,k,c',rfl,hs,hj,rfl⟩
 simp only [↓zO,El,↓Ba,↓yN,↓Bb,yO,↓mM,nk,jI,fw,Dk,reduceAdd,reduceSub,rq,Q9,bM,aA,aL,FD,FE,wS,aZ,fq,aK,d9,↓zq,↓LD,I7,uS,FH,II,Bool.not_false,Bool.and_self,reduceLeDiff,forall_const,ne_eq,reduceCtorEq,not_false_eq_true,true_and,PV.bool.injEq,Int.toNat_natCast,Nat.zero_add,decide_eq_true_eq,length_cons,length_nil]
 refine ⟨fun hk=>?_,fun hk=>?_⟩
 · obtain ⟨k,rfl⟩:∃ k',k=k'+1:=⟨k-1,by omega⟩
   have hjl:j<v.length:=by
    rcases Nat.lt_or_ge j v.length with h' | h'
    · exact h'
    · rw [List.drop_eq_nil_of_le h'] at hs;simp [Y.skip] at hs
   rw [List.drop_eq_getElem_cons hjl] at hs
   obtain ⟨hm,c'',rfl,hs'⟩:=Y.dh hs
   have hle:=Y.dZ _ _ _ hs'
   simp only [length_drop] at hle
   have hk2:((k+1:Nat):Int)+(v[j].many-1)=((k+v[j].many.toNat:Nat):Int):=by omega
   exact ⟨by omega,v[j],List.getElem?_eq_getElem hjl,by omega,by omega,by omega,c'',by omega,j+1,k+v[j].many.toNat,c'',rfl,hs',by omega,by rw [hk2];rfl⟩
 · rw [if_pos trivial]
   have hk0:k=0:=by have:=of_decide_eq_false hk;omega
   subst hk0
   have:m=0:=by cases hd:v.drop j <;> rw [hd] at hs <;> simp [Y.skip] at hs <;> exact hs.symm
   subst this
   congr 1;omega
def wh (v:aC):Obj:=⟨51,11,v.map aL,true,0⟩
theorem xE (v:aC):eX [wh v]:=by
 intro o ho x hx p hp
 simp only [List.mem_singleton] at ho
 subst ho
 simp only [wh,List.mem_map] at hx
 obtain ⟨n,_,rfl⟩:=hx
 simp only [aL,PV.cells,List.mem_cons,List.not_mem_nil,or_false] at hp
 rcases hp with rfl | rfl | rfl | rfl | rfl | rfl | rfl | rfl | rfl | rfl | rfl <;> rfl
theorem TT (n:dY):(aL n).cells.length=11∧(aL n).cells.all PV.storable=true:=⟨rfl,rfl⟩
theorem ZF (d n:Nat) (objs:List Obj) (v:aC):(v.map aL).map (PV.bJ (eY d n objs))=v.map aL:=by
 rw [List.map_map]
 exact List.map_congr_left fun x _=>rfl
theorem TU:ai Tryz.prog 28 [.sl 11 [] (some true)] [] (.bG 0 0) [wh []]:=by
 refine jd.made (T:=aR Tryz.prog []) 0 hD (aj ah) a_ ?_
 (conv=>arg 4;cbv);simp only [↓zO,El,↓Ba,↓yN,↓Bb,yO,↓mM,Em,Dk,reduceAdd,reduceSub,rq,Q9,bM,FD,FE,wS,dU,forall_const,reduceCtorEq,false_imp_iff,and_true,TK.slice.injEq,exists_eq',true_and]
 exact ⟨_,0,0,_,Weak.Eh 2 51 11 rfl,rfl,rfl,rfl,rfl,rfl,xE []⟩
theorem Qq (v:aC) (hv:v.length≤1099511627776):ai Tryz.prog 28 [.sl 11 (v.map aL) (some false)] [] (.bG 0 0) [wh v]:=by
 refine jd.made (T:=aR Tryz.prog []) 0 hD (aj ah) a_ ?_
 (conv=>arg 4;cbv);simp only [↓zO,El,↓Ba,↓yN,↓Bb,yO,↓mM,Em,Dk,reduceAdd,reduceSub,rq,Q9,bM,FD,FE,wS,dU,forall_const,reduceCtorEq,false_imp_iff,and_true,TK.slice.injEq,exists_eq',true_and]
 simp only [bL,dP,mD,newObj,iW,bM,ne_eq,reduceCtorEq,not_false_eq_true,true_and,if_true,List.all_nil,Nat.zero_mul,Nat.zero_le,nil_append,length_nil,List.getElem?_cons_zero,Option.some.injEq]
 refine ⟨rfl,rfl,rfl,rfl,?_,_,rfl,rfl,rfl,rfl,rfl,?_,?_,fun _ _ h=>h.elim,_,0,2,_,Weak.refl _ _,rfl,rfl,rfl,rfl,?_,xE v⟩
 · intro y hy
   obtain ⟨n,_,rfl⟩:=List.mem_map.1 hy
   exact TT n
 · simp;omega
 · simp;omega
 · simp only [fE,wh,List.replicate_zero,nil_append,ZF]
theorem Qr (v:aC) (hv:v.length≤1099511627776):ai Tryz.prog 28 [aA v] [] (.bG 0 0) [wh v]:=
 ai.split (pre:=[]) (post:=[]) (fun h=>by
  have:v=[]:=by simpa using h
  subst this
  exact TU) (Qq v hv)
theorem TV (t:aC) (i:Int) (h0:0≤i) (hi:i.toNat<t.length) (hl:t.length≤1000000) (ho:Y.One t):ai Tryz.prog 94 [aA t,.int .i64 i] [] (.int .i64 (i.toNat+(Y.oZ t i.toNat).length:Nat)) []:=by
 obtain ⟨c,hc⟩:=ho.at hi
 have hle:=Y.dZ _ _ _ hc
 rw [length_drop] at hle
 have hs:(Y.oZ t i.toNat).length=c:=by unfold Y.oZ;rw [hc];simp only [List.length_take,length_drop];omega
 have:=Nb t i.toNat c (by omega) hc
 rw [Int.toNat_of_nonneg h0] at this
 rw [hs]
 exact this
def qJ:dF:=fun args objs K=>match args with
 | [a0,.int .i64 i]=>fB aA a0 (HK.mk:HK fun t=>(0≤i)∧(i.toNat<t.length)∧(t.length≤1000000)∧(Y.One t)∧K (.int .i64 (i.toNat+(Y.oZ t i.toNat).length:Nat)) objs 0)
 | _=>False
theorem JE:aB Tryz.prog 94 (qJ):=by
 intro args objs K h
 unfold qJ at h
 split at h
 · rename_i a0 i
   obtain ⟨t,rfl,h1,h2,h3,h4,hk⟩:=h
   exact ⟨_,_,_,.pure _ rfl ((TV t i h1 h2 h3 h4)),hk⟩
 · exact h.elim
def jE:Nat→List aC→List (List PV)
 | _,[]=>[]
 | i,p::ps=>[.int .i64 i,.int .i64 (i+p.length:Nat)]::jE (i+p.length) ps
theorem ug:∀ (ps:List aC) (i:Nat),(jE i ps).length=ps.length
 | [],_=>rfl
 | p::ps,i=>by simp only [jE,length_cons,ug ps]
theorem DW:∀ (ps:List aC) (i:Nat),∀ y ∈ jE i ps,y.length=2
 | [],_,y,h=>by cases h
 | p::ps,i,y,h=>by
  rcases List.mem_cons.1 h with rfl | h
  · rfl
  · exact DW ps _ y h
theorem TW (t:aC):ai Tryz.prog 63 [aA t] [] (.fn 93 [] [.addr (aA t)]) []:=by
 refine WT.pure (T:=aR Tryz.prog []) 1 hD (aj ah) a_ (by decide) ?_
 (conv=>arg 4;cbv);simp only [↓zO,El,↓Ba,↓yN,↓Bb,yO,↓mM,nk,jI,fw,reduceAdd,reduceSub,rq,bM,IL,jQ,newObj,aA,FH,II,ne_eq,reduceCtorEq,not_false_eq_true,true_and,length_cons,length_nil,nil_append]
 exact ⟨rfl,rfl,rfl⟩
def uh:dF:=fun args objs K=>match args with
 | [a0]=>fB aA a0 (HK.mk:HK fun t=>K (.fn 93 [] [.addr (aA t)]) objs 0)
 | _=>False
theorem EF:aB Tryz.prog 63 (uh):=by
 intro args objs K h
 unfold uh at h
 split at h
 · rename_i a0
   obtain ⟨t,rfl,hk⟩:=h
   exact ⟨_,_,_,.pure _ rfl (TW t),hk⟩
 · exact h.elim
theorem EG (t:aC) (n:dY) (ps:List aC) (ho:Y.One t) (hl:t.length≤1000000) (hg0:t[0]?=some n) (hp:Y.parts n.many.toNat (t.drop 1)=some ps) (hm:0≤n.many) :
  Gives Tryz.prog 93 [.addr (aA t)] (if n.kind=1 then [] else jE 1 ps):=by
 refine PZ.gives (fnT:=sS [(94,qJ)]) hD (af JE ah) a_ ?_
 intro I J objs y hI I5 Yz
 have hpl:=Y.bS _ _ _ hp
 have GY:=Y.eO _ _ _ hp
 rw [length_drop] at GY
 have hmn:n.many=(ps.length:Int):=by omega
 (conv=>arg 4;cbv);simp(maxSteps:=400000)only[↓av,ax,BEq.rfl,reduceIte,reduceCtorEq,Nat.reduceLT,reduceAdd,reduceSub,reduceMul,Nat.reduceBEq,reduceLeDiff,Int.reduceToNat,Int.reduceLE,hg0]
 refine aH (fun m S=>∃ (k i:Nat) (O:List Obj) (rest:List aC),k+rest.length=ps.length∧m=rest.length∧Y.parts rest.length (t.drop i)=some rest∧ps.drop k=rest∧(jE 1 ps).drop k=jE i rest∧(if n.kind=1 then O=objs else I k O)∧
  S=⟨dI 28 [(0,.Fj y),(1,.addr (aA t)),(3,.int .i64 i),(8,.int .i64 n.many),(9,.int .i64 k)],O⟩) ps.length ⟨0,1,objs,ps,by omega,rfl,by rw [hpl];exact hp,rfl,rfl,by split;rfl;exact hI,?_⟩ ?_
 · simp only [bW,keepR,reduceAdd,nu,Nat.reduceBEq,List.map_nil]
   rfl
 rintro m S ⟨k,i,O,rest,hk,rfl,hps,hd,hrw,Wd,rfl⟩
 cases rest with
 | nil=>
  simp only [length_nil,Nat.add_zero] at hk
  have hlt:((k:Int)<(ps.length:Int))=False:=eq_false (by omega)
  simp(maxSteps:=400000)only[↓av,ax,BEq.rfl,reduceIte,reduceCtorEq,Nat.reduceLT,reduceAdd,reduceSub,reduceMul,Nat.reduceBEq,reduceLeDiff,Int.reduceToNat,Int.reduceLE,hmn,hlt]
  refine ⟨.inl rfl,.inl ?_⟩
  by_cases h1:n.kind=1
  · rw [if_pos h1] at Wd ⊢;rw [Wd];exact hI
  · rw [if_neg h1] at Wd ⊢;rw [ug,← hk];exact Wd
 | cons p qs=>
  simp only [length_cons] at hk
  obtain ⟨c,qs',h1,h2,h3⟩:=Y.eH (k:=qs.length) hps
  simp only [List.cons.injEq] at h2
  obtain ⟨hp1,rfl⟩:=h2
  have hc:=Y.dZ _ _ _ h1
  simp only [length_drop] at hc
  have hlt:((k:Int)<(ps.length:Int))=True:=eq_true (by omega)
  have hpc:p.length=c:=by rw [hp1,List.length_take,length_drop];omega
  have hsub:(Y.oZ t i).length=c:=by
   have e:Y.oZ t i=p:=by unfold Y.oZ;rw [h1];exact hp1.symm
   rw [e,hpc]
  have zi:(0≤(i:Int))=True:=eq_true (by omega)
  by_cases hk1:n.kind=1
  · have Tp:=eq_true hk1
    simp(maxSteps:=400000)only[↓av,ax,BEq.rfl,reduceIte,reduceCtorEq,Nat.reduceLT,reduceAdd,reduceSub,reduceMul,Nat.reduceBEq,reduceLeDiff,Int.reduceToNat,Int.reduceLE,hmn,hlt,↓qJ,Int.toNat_natCast,hsub,hg0,Tp]
    rw [if_pos hk1] at Wd
    have e1:(jE 1 ps).drop (k+1)=jE (i+c) qs:=by
     have:=congrArg List.tail hrw
     simpa [jE,tail_drop,hpc] using this
    have e2:ps.drop (k+1)=qs:=by
     have:=congrArg List.tail hd
     simpa [tail_drop] using this
    exact ⟨by omega,by omega,hl,ho,⟨by omega,by omega⟩,qs.length,by omega,k+1,i+c,O,qs,by omega,rfl,by rw [← List.drop_drop];exact h3,e2,e1,Wd,by rw [Int.natCast_add k 1];rfl⟩
  · have Tp:=eq_false hk1
    simp(maxSteps:=400000)only[↓av,ax,BEq.rfl,reduceIte,reduceCtorEq,Nat.reduceLT,reduceAdd,reduceSub,reduceMul,Nat.reduceBEq,reduceLeDiff,Int.reduceToNat,Int.reduceLE,hmn,hlt,↓qJ,Int.toNat_natCast,hsub,hg0,Tp,Yn]
    have e1:(jE 1 ps).drop (k+1)=jE (i+c) qs:=by
     have:=congrArg List.tail hrw
     simpa [jE,tail_drop,hpc] using this
    have e2:ps.drop (k+1)=qs:=by
     have:=congrArg List.tail hd
     simpa [tail_drop] using this
    have e3:(jE 1 ps)[k]?=some [.int .i64 (i:Int),.int .i64 (i+c:Nat)]:=by
     have:=congrArg (fun l=>l[0]?) hrw
     simpa [jE,hpc] using this
    rw [if_neg hk1] at Wd
    exact ⟨by omega,by omega,hl,ho,rfl,k,Wd,e3,fun O' hI'=>⟨⟨by omega,by omega⟩,qs.length,by omega,k+1,i+c,O',qs,by omega,rfl,by rw [← List.drop_drop];exact h3,e2,e1,hI',by rw [Int.natCast_add k 1];rfl⟩,
     fun O' hJ'=>⟨.inr rfl,.inr ⟨k,by rw [ug];omega,hJ'⟩⟩⟩
end Lp
namespace Lp
open Go Go.Proofs
open List (mem_singleton)
open Nat (reduceAdd reduceLeDiff reduceMul reduceSub)
open Int (reduceLE reduceToNat)
def jw:dF:=fun args objs K=>match args with
 | [a]=>fB aA a (HK.mk:HK fun t=>t.length≤1000000∧K (.bG objs.length 0) (objs++[wh t]) 2)
 | _=>False
theorem vF:aB Tryz.prog 28 jw:=by
 intro args objs K h
 unfold jw at h
 split at h
 · rename_i a
   obtain ⟨t,rfl,hv,hk⟩:=h
   have h:=mH.made (P:=Tryz.prog) (objs:=objs) _ _ rfl (xE t) (Qr t (by omega))
   exact ⟨_,_,_,h,by simpa [PV.shift,PV.qj] using hk⟩
 · exact h.elim
theorem DX (t:aC):∀ (ps:List aC) (i0 k:Nat) (args:List PV),ps.flatten=(t.drop i0).take ps.flatten.length→(jE i0 ps)[k]?=some args→
  ∃ p o,ps[k]?=some p∧args=[.int .i64 (o:Nat),.int .i64 (o+p.length:Nat)]∧(t.drop o).take p.length=p
 | [],i0,k,args,_,h=>by simp [jE] at h
 | p::ps,i0,0,args,hf,h=>by
  simp only [jE,List.getElem?_cons_zero,Option.some.injEq] at h
  refine ⟨p,i0,rfl,h.symm,?_⟩
  have:=congrArg (List.take p.length) hf
  simp only [List.flatten_cons,List.take_left,List.length_append] at this
  rw [List.take_take,Nat.min_eq_left (by omega)] at this
  exact this.symm
 | p::ps,i0,k+1,args,hf,h=>by
  simp only [jE,List.getElem?_cons_succ] at h
  have:=congrArg (List.drop p.length) hf
  simp only [List.flatten_cons,List.drop_left,List.length_append] at this
  rw [List.drop_take,List.drop_drop,Nat.add_sub_cancel_left] at this
  obtain ⟨q,o,h1,h2,h3⟩:=DX t ps (i0+p.length) k args this h
  exact ⟨q,o,by simpa using h1,h2,h3⟩
def yZ (t:aC):Obj:=⟨23,1,[aA t],true,1⟩
def Fa (t:aC):List aC→Nat→List Obj
 | [],_=>[yZ t,⟨54,1,[.sl 0 [] (some true)],true,1⟩]
 | p::ps,v=>[yZ t,⟨54,1,[.bG 2 v],true,1⟩,v_ (p::ps) v]
theorem aa8 (t:aC) (l:List aC) (v:Nat):2≤(Fa t l v).length∧jU (Fa t l v):=by
 cases l with
 | nil=>
  refine ⟨by simp [Fa],?_⟩
  intro o ho x hx c hc
  simp only [Fa,yZ,List.mem_cons,List.not_mem_nil,or_false] at ho
  rcases ho with rfl | rfl
  · simp only [mem_singleton] at hx;subst hx
    simp only [aA,PV.cells,mem_singleton] at hc;subst hc;rfl
  · simp only [mem_singleton] at hx;subst hx
    simp only [PV.cells,mem_singleton] at hc;subst hc;rfl
 | cons p ps=>
  refine ⟨by simp [Fa],?_⟩
  intro o ho x hx c hc
  simp only [Fa,yZ,v_,List.mem_cons,List.not_mem_nil,or_false] at ho
  rcases ho with rfl | rfl | rfl
  · simp only [mem_singleton] at hx;subst hx
    simp only [aA,PV.cells,mem_singleton] at hc;subst hc;rfl
  · simp only [mem_singleton] at hx;subst hx
    simp only [PV.cells,mem_singleton] at hc;subst hc;simp [Fa,PV.vW]
  · simp only [List.mem_map] at hx
    obtain ⟨y,_,rfl⟩:=hx
    simp only [aA,PV.cells,mem_singleton] at hc;subst hc;rfl
theorem ZG (x:dY) (q:aC):(wh (x::q)).live=true∧(wh (x::q)).ver=0∧(wh (x::q)).sz=11∧(wh (x::q)).ty=51∧(wh (x::q)).xs=aL x::q.map aL:=⟨rfl,rfl,rfl,rfl,rfl⟩
theorem aa9 (l:List aC) (v:Nat):(v_ l v).live=true∧(v_ l v).ver=v∧(v_ l v).sz=1∧(v_ l v).ty=23∧(v_ l v).xs=l.map aA:=⟨rfl,rfl,rfl,rfl,rfl⟩
theorem Nc (k:Nat) (X:List Obj) (x:dY) (q:aC) (ver:Nat) (t:TypeId) (h:X[k]?=some ⟨t,11,aL x::q.map aL,true,ver⟩):eY 1 k X (.bG k ver)=aA (x::q):=by
 have e:(aL x::q.map aL).map (PV.bJ (iY 0 k X))=aL x::q.map aL:=Ik (iY 0 k X) (fun _=>rfl) (x::q)
 simp only [eY,Nat.lt_irrefl,if_false,iY,h,Nat.le_refl,decide_true,Bool.true_and,beq_self_eq_true,if_true,e]
 rfl
theorem ZH (a b:Obj) (D:List aC) (ver:Nat):eY 2 0 [a,b,v_ D ver] (.bG 2 ver)=dm D:=by
 simp only [v_,eY,Nat.not_lt_zero,if_false,iY,List.getElem?_cons_succ,List.getElem?_cons_zero,Nat.zero_le,decide_true,Bool.true_and,beq_self_eq_true,if_true,DV (iY 1 0 _) (fun _=>rfl)]
 rfl
theorem Il :
  (∀ d X v i f,eY d 2 X (.bI 1 v i f)=.bI 1 v i f)∧(∀ d X v i f,eY d 3 X (.bI 1 v i f)=.bI 1 v i f)∧
  (∀ d n X T t u,fE d n X ⟨T,1,[aA t],true,u⟩=⟨T,1,[aA t],true,u⟩)∧
  (∀ d n X T u,fE d n X ⟨T,1,[.sl 0 [] (some true)],true,u⟩=⟨T,1,[.sl 0 [] (some true)],true,u⟩)∧
  (∀ d X T v u,fE d 3 X ⟨T,1,[.bG 2 v],true,u⟩=⟨T,1,[.bG 2 v],true,u⟩)∧
  (∀ d n X l v,fE d n X (v_ l v)=v_ l v):=
 ⟨fun _ _ _ _ _=>rfl,fun _ _ _ _ _=>rfl,fun _ _ _ _ _ _=>rfl,fun _ _ _ _ _=>rfl,fun _ _ _ _ _=>rfl,fun d n X l v=>Qo d n X 23 l v⟩
def acf (l:List aC):PV:=if l=[] then .sl 0 [] (some true) else dm l
theorem JF (t:aC) (ho:Y.One t) (hl:t.length≤1000000):ai Tryz.prog 52 [aA t] [] (acf (aG t)) []:=by
 obtain ⟨n,r,ps,hv,hm,hp,hfl,hps,hpo,hmn,GY⟩:=qI t ho
 have hg0:t[0]?=some n:=by rw [hv];rfl
 have hd1:t.drop 1=r:=by rw [hv];rfl
 have hrl:r.length+1=t.length:=by rw [hv];rfl
 have hr:aG t=if n.kind=1 then [] else ps.map Y.j4:=by rw [hv,aG,hpo]
 have hgv:=EG t n ps ho hl hg0 (by rw [hd1];exact hp) hm
 refine Td.bg (T:=aR Tryz.prog [(63,uh),(28,jw)]) 2 hD (aj (af EF (af vF ah))) a_ (by decide) fun Q hQ=>?_
 (conv=>arg 4;cbv);simp(maxSteps:=400000)only[↓av,ax,BEq.rfl,reduceIte,reduceCtorEq,Nat.reduceLT,reduceAdd,reduceSub,reduceMul,Nat.reduceBEq,reduceLeDiff,reduceToNat,reduceLE,hQ,↓uh]
 obtain ⟨qs,hqs,hrows⟩:∃ qs:List aC,qs=(if n.kind=1 then [] else ps)∧(if n.kind=1 then [] else jE 1 ps)=jE 1 qs:=by
  by_cases h1:n.kind=1
  · exact ⟨[],by rw [if_pos h1],by rw [if_pos h1];rfl⟩
  · exact ⟨ps,by rw [if_neg h1],by rw [if_neg h1]⟩
 have hr':aG t=qs.map Y.j4:=by
  rw [hr,hqs];split <;> rfl
 have hqf:qs.flatten=(t.drop 1).take qs.flatten.length:=by
  rw [hqs];split
  · rfl
  · rw [hd1,hfl];simp
 have XO:qs.length≤t.length:=by
  rw [hqs];split
  · simp
  · omega
 have aeA:∀ p ∈ qs,Y.One p:=by
  rw [hqs];split
  · intro p h;cases h
  · exact hps
 rw [hrows] at hgv
 clear hqs hrows hr
 refine RH 93 [.addr (aA t)] (jE 1 qs) (fun i O=>∃ ver,i≤qs.length∧O=Fa t ((qs.take i).map Y.j4) ver) rfl rfl rfl trivial hgv (DW qs 1) ⟨0,Nat.zero_le _,rfl⟩ ?_ ?_ ?_
 · rintro i O ⟨ver,_,rfl⟩
   exact aa8 _ _ _
 · rintro i args O ⟨ver,hi,rfl⟩ ha
   obtain ⟨p,o,h1,rfl,h3⟩:=DX t qs 1 i args hqf ha
   have hil:=(List.getElem?_eq_some_iff.1 h1).1
   have htk:(qs.take (i+1)).map Y.j4=(qs.take i).map Y.j4++[Y.j4 p]:=by rw [List.take_add_one,h1];simp
   have afr:=(aeA p (List.mem_of_getElem? h1)).ne
   obtain ⟨x,q,hpx⟩:∃ x q,p=x::q:=by
    cases p with
    | nil=>exact absurd rfl afr
    | cons x q=>exact ⟨x,q,rfl⟩
   have hxl:p.length=q.length+1:=by rw [hpx];rfl
   have hol:o+p.length≤t.length:=by
    have:=congrArg List.length h3
    rw [List.length_take,List.length_drop] at this
    omega
   have zo:(0≤(o:Int))=True:=eq_true (by omega)
   have c1:((o:Int)≤((o+p.length:Nat):Int))=True:=eq_true (by omega)
   have c2:(((o+p.length:Nat):Int)≤(t.length:Int))=True:=eq_true (by omega)
   have hsl:List.drop o (List.take (o+p.length) t)=p:=by rw [List.drop_take,show o+p.length-o=p.length by omega,h3]
   subst hpx
   simp only [List.length_cons] at c1 c2 hsl hol
   clear hxl
   cases hD:(qs.take i).map Y.j4 with
   | nil=>
    unfold Fa yZ
    simp(maxSteps:=400000)only[↓av,ax,BEq.rfl,reduceIte,reduceCtorEq,Nat.reduceLT,reduceAdd,reduceSub,reduceMul,Nat.reduceBEq,reduceLeDiff,reduceToNat,reduceLE,hQ,qx,knI,↓jw,zo,c1,c2,hsl,ZG,List.set_cons_zero]
    refine ⟨by omega,by omega,?_⟩
    refine aN _ (Weak.freeze 1 2 ?_ _) ?_
    · exact Nat.le_refl _
    have hz:∀ a b:Obj,eY 1 2 [a,b,⟨51,11,aL { x with name:=[] }::q.map aL,true,0⟩] (.bG 2 0)=aA ({ x with name:=[] }::q):=fun a b=>Nc 2 _ _ q 0 _ rfl
    simp(maxSteps:=400000)only[↓av,ax,BEq.rfl,reduceIte,reduceCtorEq,Nat.reduceLT,reduceAdd,reduceSub,reduceMul,Nat.reduceBEq,reduceLeDiff,reduceToNat,reduceLE,hQ,hz,Il,List.take_succ_cons,List.take_zero]
    refine ⟨1,by omega,?_⟩
    rw [htk,hD];rfl
   | cons d ds=>
    unfold Fa yZ
    simp(maxSteps:=400000)only[↓av,ax,BEq.rfl,reduceIte,reduceCtorEq,Nat.reduceLT,reduceAdd,reduceSub,reduceMul,Nat.reduceBEq,reduceLeDiff,reduceToNat,reduceLE,hQ,qx,knI,↓jw,zo,c1,c2,hsl,ZG,List.set_cons_zero]
    refine ⟨by omega,by omega,?_⟩
    refine aN _ (Weak.freeze 1 3 ?_ _) ?_
    · exact (by decide:2≤3)
    have hz:∀ a b c:Obj,eY 1 3 [a,b,c,⟨51,11,aL { x with name:=[] }::q.map aL,true,0⟩] (.bG 3 0)=aA ({ x with name:=[] }::q):=fun a b c=>Nc 3 _ _ q 0 _ rfl
    have hdl:ds.length≤t.length:=by
     have:=congrArg List.length hD
     simp only [List.length_map,List.length_take,List.length_cons] at this
     omega
    simp(maxSteps:=400000)only[↓av,ax,BEq.rfl,reduceIte,reduceCtorEq,Nat.reduceLT,reduceAdd,reduceSub,reduceMul,Nat.reduceBEq,reduceLeDiff,reduceToNat,reduceLE,hQ,hz,Il,aa9,List.take_succ_cons,List.take_zero]
    refine ⟨by omega,by omega,ver+1,by omega,?_⟩
    rw [htk,hD]
    simp only [List.cons_append,v_,List.map_cons,List.map_append,List.map_nil]
    rfl
 · rintro O ⟨ver,_,rfl⟩
   rw [ug,List.take_length,← hr']
   cases hD:aG t with
   | nil=>
    unfold Fa yZ
    simp(maxSteps:=400000)only[↓av,ax,BEq.rfl,reduceIte,reduceCtorEq,Nat.reduceLT,reduceAdd,reduceSub,reduceMul,Nat.reduceBEq,reduceLeDiff,reduceToNat,reduceLE,hQ]
    rw [hD];rfl
   | cons d ds=>
    unfold Fa yZ
    simp(maxSteps:=400000)only[↓av,ax,BEq.rfl,reduceIte,reduceCtorEq,Nat.reduceLT,reduceAdd,reduceSub,reduceMul,Nat.reduceBEq,reduceLeDiff,reduceToNat,reduceLE,hQ]
    rw [hD]
    exact (ZH _ _ _ _).symm
theorem Nf (t:aC) (ho:Y.One t) (hl:t.length≤1000000):ai Tryz.prog 52 [aA t] [] (dm (aG t)) []:=by
 refine (JF t ho hl).res ?_
 unfold acf
 split
 · rename_i h;rw [h];exact tq 0 1
 · exact .refl _
def kJ:dF:=fun args objs K=>match args with
 | [a0]=>fB aA a0 (HK.mk:HK fun t=>(Y.One t)∧(t.length≤1000000)∧K (dm (aG t)) objs 0)
 | _=>False
theorem si:aB Tryz.prog 52 (kJ):=by
 intro args objs K h
 unfold kJ at h
 split at h
 · rename_i a0
   obtain ⟨t,rfl,h1,h2,hk⟩:=h
   exact ⟨_,_,_,.pure _ rfl (Nf t h1 h2),hk⟩
 · exact h.elim
end Lp
namespace Lp
open Go Go.Proofs
open Nat (reduceAdd reduceLeDiff reduceMul reduceSub)
open Int (reduceLE reduceToNat)
theorem U3 {n:Nat}{l m:List (Nat×PV)}(h:∀ i,l_ l i=l_ m i):dI n l=dI n m:=
 xX (by simp [nS]) fun i hi=>by rw [uU,if_pos hi,h]
theorem Qs (t:aC) (n:dY) (hl:t.length≤1000000) (hg0:t[0]?=some n) (hm:0≤n.many) (hml:1+n.many.toNat≤t.length):ai Tryz.prog 101 [aA t,.int .i64 0] [] (bf (((t.drop 1).take n.many.toNat).map iM)) []:=by
 refine MO.bg (T:=aR Tryz.prog []) 1 hD (aj ah) a_ (by decide) fun Q hQ=>?_
 have e1:(0:Int)+1=1:=rfl
 have e2:Int.toNat 1=1:=rfl
 have t1:(1+n.many).toNat=1+n.many.toNat:=by omega
 have c1:((1:Int)≤1+n.many)=True:=eq_true (by omega)
 have c2:(1+n.many≤(t.length:Int))=True:=eq_true (by omega)
 have hR:List.drop 1 (List.take (1+n.many.toNat) t)=(t.drop 1).take n.many.toNat:=by rw [List.drop_take];congr 1;omega
 have hRl:((t.drop 1).take n.many.toNat).length=n.many.toNat:=by rw [List.length_take,List.length_drop];omega
 (conv=>arg 4;cbv);simp(maxSteps:=400000)only[↓av,ax,BEq.rfl,reduceIte,reduceCtorEq,Nat.reduceLT,reduceAdd,reduceSub,reduceMul,Nat.reduceBEq,reduceLeDiff,reduceToNat,reduceLE,hQ,hg0,e1,e2,t1,c1,c2,hR]
 generalize (t.drop 1).take n.many.toNat=R at *
 refine ⟨⟨by omega,by omega⟩,?_⟩
 refine Ku (hz:=Nat.zero_le _) ⟨dI 35 [(5,.bG 0 0),(19,aA R),(20,.int .i64 R.length),(21,.int .i64 0)],[⟨29,7,[],true,0⟩]⟩ R.length ?_ ?_ ?_
  (I:=fun m S=>∃ i ver:Nat,i+m=R.length∧S=⟨dI 35 [(5,.bG 0 ver),(19,aA R),(20,.int .i64 R.length),(21,.int .i64 i)],[⟨29,7,((R.take i).map iM).map bX,true,ver⟩]⟩)
 · simp(maxSteps:=400000)only[↓av,ax,BEq.rfl,reduceIte,reduceCtorEq,Nat.reduceLT,reduceAdd,reduceSub,reduceMul,Nat.reduceBEq,reduceLeDiff,reduceToNat,reduceLE,List.take_nil]
   refine (Weak.Eh 5 29 7 (by rfl)).trans ?_
   rw [rW.1,U3 (m:=[(5,.bG 0 0),(19,aA R),(20,.int .i64 R.length),(21,.int .i64 0)])]
   · exact Weak.refl _ _
   · intro i
     simp only [l_]
     by_cases h3:i=5
     · subst h3;rfl
     · simp only [h3,if_false]
 · exact ⟨0,0,by omega,rfl⟩
 rintro m S ⟨i,ver,him,rfl⟩
 rcases Nat.lt_or_ge i R.length with h | h
 · have hlt:((i:Int)<(R.length:Int))=True:=eq_true (by omega)
   have hgi:=List.getElem?_eq_getElem h
   generalize R[i]=x at hgi
   have htk:(R.take (i+1)).map iM=(R.take i).map iM++[⟨x.n,x.c⟩]:=by rw [List.take_add_one,hgi];simp [iM]
   have hti:(R.take i).length=i:=by rw [List.length_take];omega
   simp(maxSteps:=400000)only[↓av,ax,BEq.rfl,reduceIte,reduceCtorEq,Nat.reduceLT,reduceAdd,reduceSub,reduceMul,Nat.reduceBEq,reduceLeDiff,reduceToNat,reduceLE,hQ,hlt,hgi,gM,gV,r_,bY,dO,atB,Zw,hti,WW,List.take_succ_cons,List.take_zero]
   refine ⟨by omega,by omega,by omega,⟨by omega,by omega⟩,m-1,by omega,i+1,ver+1,by omega,?_⟩
   have hk:∀ d m O (l:List fQ) v,fE d m O ⟨29,7,l.map bX,true,v⟩=⟨29,7,l.map bX,true,v⟩:=fun d m O l v=>by
    have:(l.map bX).map (PV.bJ (eY d m O))=l.map bX:=by rw [List.map_map];exact List.map_congr_left fun x _=>rfl
    simp only [fE,this]
   have e:List.map bX (List.map iM (List.take i R))++[bX ⟨x.n,x.c⟩]=(((R.take (i+1)).map iM).map bX):=by rw [htk];simp
   simp only [e,List.map_cons,List.map_nil,hk]
   rfl
 · have hlt:((i:Int)<(R.length:Int))=False:=eq_false (by omega)
   rw [List.take_of_length_le h]
   simp(maxSteps:=400000)only[↓av,ax,BEq.rfl,reduceIte,reduceCtorEq,Nat.reduceLT,reduceAdd,reduceSub,reduceMul,Nat.reduceBEq,reduceLeDiff,reduceToNat,reduceLE,hQ,hlt,FQ]
theorem Ng (t:aC) (hl:t.length≤1000000) (ho:Y.One t):ai Tryz.prog 84 [aA t] [] (if Y.kindOf t=1 then bf (bT t) else .sl 0 [] (some true)) []:=by
 obtain ⟨n,r,ps,hv,hm,hp,hfl,hps,hpo,hmn,GY⟩:=qI t ho
 have hg0:t[0]?=some n:=by rw [hv];rfl
 have hkd:Y.kindOf t=n.kind:=by rw [hv];rfl
 rw [hkd]
 by_cases hk:n.kind=1
 · rw [if_pos hk]
   have ha:bT t=((t.drop 1).take n.many.toNat).map iM:=by rw [hv];simp [bT,hk]
   have hml:1+n.many.toNat≤t.length:=by rw [hv,List.length_cons];omega
   rw [ha]
   have hsp:=Qs t n hl hg0 hm hml
   generalize ((t.drop 1).take n.many.toNat).map iM=A at *
   have hok:aB Tryz.prog 101 (fun args objs K=>args=[aA t,.int .i64 0]∧K (bf A) objs 0):=by
    rintro args objs K ⟨rfl,hk⟩
    exact ⟨_,_,_,.pure _ rfl hsp,hk⟩
   refine H7.bg (T:=aR Tryz.prog [(101,_)]) 0 hD (aj (af hok ah)) a_ (by decide) fun Q hQ=>?_
   (conv=>arg 4;cbv);simp(maxSteps:=400000)only[↓av,ax,BEq.rfl,reduceIte,reduceCtorEq,Nat.reduceLT,reduceAdd,reduceSub,reduceMul,Nat.reduceBEq,reduceLeDiff,reduceToNat,reduceLE,hQ,hg0,hk]
 · rw [if_neg hk]
   have hk':=eq_false hk
   refine H7.bg (T:=aR Tryz.prog []) 0 hD (aj ah) a_ (by decide) fun Q hQ=>?_
   (conv=>arg 4;cbv);simp(maxSteps:=400000)only[↓av,ax,BEq.rfl,reduceIte,reduceCtorEq,Nat.reduceLT,reduceAdd,reduceSub,reduceMul,Nat.reduceBEq,reduceLeDiff,reduceToNat,reduceLE,hQ,hg0,hk']
theorem JG (t:aC) (hl:t.length≤1000000) (ho:Y.One t):ai Tryz.prog 84 [aA t] [] (bf (bT t)) []:=by
 refine (Ng t hl ho).res ?_
 split
 · exact .refl _
 · rename_i h
   have:bT t=[]:=by
    cases t with
    | nil=>rfl
    | cons n r=>have hk:¬ n.kind=1:=h;simp [bT,hk]
   rw [this]
   exact tq 0 7
def qK:dF:=fun args objs K=>match args with
 | [a0]=>fB aA a0 (HK.mk:HK fun t=>(t.length≤1000000)∧(Y.One t)∧K (bf (bT t)) objs 0)
 | _=>False
theorem JH:aB Tryz.prog 84 (qK):=by
 intro args objs K h
 unfold qK at h
 split at h
 · rename_i a0
   obtain ⟨t,rfl,h1,h2,hk⟩:=h
   exact ⟨_,_,_,.pure _ rfl (JG t h1 h2),hk⟩
 · exact h.elim
end Lp
namespace Lp
open Go Go.Proofs
end Lp
namespace Lp
open Go Go.Proofs
end Lp
namespace Lp
open Go Go.Proofs
def ty0:aC:=[⟨0,0,[],[],0,aM⟩]
theorem Nh {t:aC}(h:fG t=true) (hl:t.length≤100000) (hc:∀ n ∈ t,n.c.s.length≤500000∧n.name.length≤4611686018427387904):zD t:=
 ⟨tT h,hl,fun n hn=>(hc n hn).1,fun n hn=>(hc n hn).2⟩
theorem ac9 {t:aC}{k:Nat}(hk:k≤100000) (h:JD t k=true):zD t∧t.length≤k:=by
 simp only [JD,Bool.and_eq_true,decide_eq_true_eq,List.all_eq_true] at h
 obtain ⟨⟨h1,h2⟩,h3⟩:=h
 simp only [o_,Bool.and_eq_true] at h3
 refine ⟨Nh h3.1 (by omega) fun n hn=>?_,h1⟩
 have:=h2 n hn
 simp only [jV,Bool.and_eq_true,decide_eq_true_eq] at this
 omega
structure ZI (t:aC):Prop where
 len:t.length≤4611686018427387904
 txt:∀ n ∈ t,n.s.length≤4611686018427387904∧n.name.length≤4611686018427387904∧n.c.s.length≤4611686018427387904
 cnm:∀ n ∈ t,n.c.name.length≤4611686018427387904
end Lp
namespace Lp
open Go Go.Proofs Go.RowKit
end Lp
namespace Lp
open Go Go.Proofs
instance :Inhabited Nd:=⟨⟨0,0,[],[],false,0⟩⟩
structure Xh (n:Nd):Prop where
 kind:Ga .i64 n.kind
 many:Ga .i64 n.many
 name:n.name.length≤reachBytes
 s:n.s.length≤reachBytes
 e:Ga .i64 n.e
theorem one_cell {t:TypeId}(hc:Tryz.prog.cellsOf t=1){cs:List Value}{off:Nat}{v:Value}(h:cs[off]?=some v):(cs.drop off).take (Tryz.prog.cellsOf t)=[v]:=by
 rw [hc]
 have hl:=(List.getElem?_eq_some_iff.1 h).1
 rw [show (cs.drop off)=cs[off]::cs.drop (off+1) from List.drop_eq_getElem_cons hl]
 rw [List.getElem?_eq_getElem hl] at h
 cases h
 rw [List.take_succ_cons,List.take_zero]
theorem Cq:Tryz.prog.underlying 3=some (.int .i64):=by kernel_rfl
theorem Cr:Tryz.prog.underlying 9=some .string:=by kernel_rfl
theorem ac_:Tryz.prog.underlying 4=some .bool:=by kernel_rfl
theorem EH:Tryz.prog.cellsOf 3=1:=by kernel_rfl
theorem Cs:Tryz.prog.cellsOf 9=1:=by kernel_rfl
theorem ada:Tryz.prog.cellsOf 4=1:=by kernel_rfl
theorem adb:∃ fs:Array Field,Tryz.prog.underlying 27=some (.struct fs)∧fs.toList.map (fun f=>(f.offset,f.type))=[(0,3),(1,3),(2,9),(3,9),(4,4),(5,3)]:=
 ⟨Tryz.prog.fieldsOf 27,by kernel_rfl,by kernel_rfl⟩
theorem U4:Rd Tryz.prog 27 ay Xh:=by
 intro H eh w fuel cs x h hw
 obtain ⟨fs,ht,hfs⟩:=adb
 obtain ⟨hl,hp⟩:=uV ht h hw
 rw [hfs] at hp
 have hc:Tryz.prog.cellsOf 27=6:=by kernel_rfl
 rw [hc] at hl
 match cs,hl with
 | [v0,v1,v2,v3,v4,v5],_=>
  obtain ⟨n0,y0,a0,b0⟩:=hp 0 0 3 rfl
  obtain ⟨n1,y1,a1,b1⟩:=hp 1 1 3 rfl
  obtain ⟨n2,y2,a2,b2⟩:=hp 2 2 9 rfl
  obtain ⟨n3,y3,a3,b3⟩:=hp 3 3 9 rfl
  obtain ⟨n4,y4,a4,b4⟩:=hp 4 4 4 rfl
  obtain ⟨n5,y5,a5,b5⟩:=hp 5 5 3 rfl
  rw [one_cell EH (v:=v0) rfl] at a0
  rw [one_cell EH (v:=v1) rfl] at a1
  rw [one_cell Cs (v:=v2) rfl] at a2
  rw [one_cell Cs (v:=v3) rfl] at a3
  rw [one_cell ada (v:=v4) rfl] at a4
  rw [one_cell EH (v:=v5) rfl] at a5
  obtain ⟨k,g0,r0⟩:=Rd.int Cq eh w n0 _ _ a0 b0
  obtain ⟨m,g1,r1⟩:=Rd.int Cq eh w n1 _ _ a1 b1
  obtain ⟨nm,g2,r2⟩:=Rd.str Cr eh w n2 _ _ a2 b2
  obtain ⟨s,g3,r3⟩:=Rd.str Cr eh w n3 _ _ a3 b3
  obtain ⟨g,_,r4⟩:=Rd.bool ac_ eh w n4 _ _ a4 b4
  obtain ⟨e,g5,r5⟩:=Rd.int Cq eh w n5 _ _ a5 b5
  refine ⟨⟨k,m,nm,s,g,e⟩,⟨g0,g1,g2,g3,g5⟩,rfl,fun i p v h1 h2=>?_⟩
  match i with
  | 0=>simp [ay,PV.cells] at h1 h2;subst h1;subst h2;exact r0.2 0 _ _ rfl rfl
  | 1=>simp [ay,PV.cells] at h1 h2;subst h1;subst h2;exact r1.2 0 _ _ rfl rfl
  | 2=>simp [ay,PV.cells] at h1 h2;subst h1;subst h2;exact r2.2 0 _ _ rfl rfl
  | 3=>simp [ay,PV.cells] at h1 h2;subst h1;subst h2;exact r3.2 0 _ _ rfl rfl
  | 4=>simp [ay,PV.cells] at h1 h2;subst h1;subst h2;exact r4.2 0 _ _ rfl rfl
  | 5=>simp [ay,PV.cells] at h1 h2;subst h1;subst h2;exact r5.2 0 _ _ rfl rfl
  | i+6=>simp [ay,PV.cells] at h1
structure Big (v:Vl):Prop where
 len:v.length≤1152921504606846976
 txt:∀ n ∈ v,n.s.length≤4611686018427387904∧n.name.length≤4611686018427387904
 nd:∀ n ∈ v,Xh n
structure aeB (l:List Vl):Prop where
 len:l.length≤1152921504606846976
 all:∀ v ∈ l,Big v
theorem afs {t e:TypeId}{α:Type}{enc:α→PV}{good:α→Prop}(hu:Tryz.prog.underlying t=some (.slice e)) (hr:Rd Tryz.prog t enc good) (h1:∀ a,(enc a).cells=[enc a]){H:Type}{eh:TypeId×Value→H}{w:World}{base:Nat}{v:Value}{d:DataW H}{p:List MemPlace}
  (hv:Value.okWide Tryz.prog w .any base t v) (h:DataW.Trod eh Tryz.prog w 0 (fun _=>true) true t v d p) (hw:∀ n ∈ DataW.weights Tryz.prog t d,n≤reachBytes):∃ a:α,good a∧dz w (fun _=>True) (enc a) v:=by
 obtain ⟨ad,len,cap,rfl⟩:=Go.WideShapes.okWide_slice hu hv
 obtain ⟨fuel,h⟩:=h
 obtain ⟨a,g,r⟩:=hr eh w fuel _ _ h hw
 rw [h1 a] at r
 exact ⟨a,g,r.2 0 _ _ rfl rfl⟩
theorem dX {R:PV→Value→Prop}{p:PV}{ps:List PV}{v:Value}{vs:List Value}(h:R p v) (hs:cZ R ps vs):cZ R (p::ps) (v::vs):=
 ⟨by simp [hs.1],fun i q u h1 h2=>by
  cases i with
  | zero=>simp at h1 h2;subst h1;subst h2;exact h
  | succ i=>exact hs.2 i q u (by simpa using h1) (by simpa using h2)⟩
theorem Qt {R:PV→Value→Prop}:cZ R [] []:=⟨rfl,fun i q u h1=>by simp at h1⟩
end Lp
namespace Lp
open Go Go.Proofs Go.RowKit
structure ZJ (l:List fQ):Prop where
 len:l.length≤1152921504606846976
 all:∀ a ∈ l,pO a.c
theorem Ni {l:List fQ}{k:Int}(h:allA l k=true):(∀ a ∈ l,fe a.c∧a.c.s.length≤200∧0≤a.n∧a.n≤5)∧(l.length:Int)≤k:=by
 simp only [allA,Bool.and_eq_true,decide_eq_true_eq,List.all_eq_true] at h
 refine ⟨fun a ha=>?_,h.1⟩
 have:=h.2 a ha
 simp only [MN,gG,Bool.and_eq_true,decide_eq_true_eq] at this
 exact ⟨⟨this.2.2,by omega⟩,this.1,this.2.1.1,this.2.1.2⟩
end Lp
namespace Lp
open Go Go.Proofs Go.Shelf Go.RowKit Go.Lib Go.ChangeAt
def ZK:List (String×DataW Unit):=[("unicode/utf8.acceptRanges",Lib.acceptData),("unicode/utf8.first",Lib.firstData)]
noncomputable def Xi (os:Os):World:=
 let w0:=World.holding Tryz.prog os ⟨#[],#[],[]⟩
 let put (h:Array Go.Obj) (g:Nat) (cs:Array Value):Array Go.Obj:=h.modify g fun
  | .cells _ t frozen=>.cells cs t frozen
  | o=>o
 let h1:=put w0.heap 0 (Lib.firstTab.map fun z=>Value.int .u8 z).toArray
 let h2:=put h1 1 ((List.range 16).flatMap fun i=>[Value.int .u8 (Lib.accLo i),Value.int .u8 (Lib.accHi i)]).toArray
 { w0 with heap:=h2 }
theorem aeC (os:Os) (args:Array Value):laidMet Tryz.prog ZK ((Xi os).forCall (fun _ _=>0) ⟨#[],args,[]⟩).memory:=
 (LaidIn.of_run (l:=ZK) [1,0] 8 (by kernel_rfl) (by kernel_rfl) (by kernel_rfl) (by kernel_rfl)).met
theorem Xj {w W:World}(h:w.heap=W.heap) (hT:Lib.Utf8Tabs 0 1 W):Lib.Utf8Tabs 0 1 w:=by
 have e:∀ b:Nat,w.heap[b]?=W.heap[b]?:=fun b=>by rw [h]
 refine ⟨fun c hc=>?_,fun i hi=>⟨?_,?_⟩⟩
 · rw [pV (e 0)];exact hT.1 c hc
 · rw [pV (e 1)];exact (hT.2 i hi).1
 · rw [pV (e 1)];exact (hT.2 i hi).2
theorem adC {W:World}(h:laidMetH Tryz.prog ZK W):rO.holds W.heap:=by
 have hT:Lib.Utf8Tabs 0 1 W:=
  utf8Tabs_of_readsT (U8Types.of196 Tryz.LY) ⟨by kernel_rfl,by kernel_rfl,by kernel_rfl,by kernel_rfl,by kernel_rfl,by kernel_rfl,by kernel_rfl⟩ (Lib.laidMet.reads h (.tail _ (.head _))) (Lib.laidMet.reads h (.head _))
 intro w hw
 exact Xj hw hT
structure afS (l:List (List UInt8)):Prop where
 len:l.length≤1152921504606846976
 all:∀ s ∈ l,s.length≤4611686018427387904
end Lp
namespace Lp
open Go Go.Proofs
theorem ade:∃ fs:Array Field,Tryz.prog.underlying 29=some (.struct fs)∧fs.toList.map (fun f=>(f.offset,f.type))=[(0,3),(1,27)]:=
 ⟨Tryz.prog.fieldsOf 29,by kernel_rfl,by kernel_rfl⟩
instance :Inhabited fQ:=⟨⟨0,⟨0,0,[],[],false,0⟩⟩⟩
structure aft (a:fQ):Prop where
 n:Ga .i64 a.n
 c:Xh a.c
theorem aa_:Rd Tryz.prog 29 bX aft:=by
 intro H eh w fuel cs x h hw
 obtain ⟨fs,ht,hfs⟩:=ade
 obtain ⟨hl,hp⟩:=uV ht h hw
 rw [hfs] at hp
 have hc:Tryz.prog.cellsOf 29=7:=by kernel_rfl
 rw [hc] at hl
 match cs,hl with
 | [v0,v1,v2,v3,v4,v5,v6],_=>
  obtain ⟨n0,y0,a0,b0⟩:=hp 0 0 3 rfl
  obtain ⟨n1,y1,a1,b1⟩:=hp 1 1 27 rfl
  have hcd:Tryz.prog.cellsOf 27=6:=by kernel_rfl
  rw [hcd] at a1
  rw [one_cell EH (v:=v0) rfl] at a0
  obtain ⟨k,g0,r0⟩:=Rd.int Cq eh w n0 _ _ a0 b0
  obtain ⟨c,g1,r1⟩:=U4 eh w n1 _ _ a1 b1
  refine ⟨⟨k,c⟩,⟨g0,g1⟩,?_⟩
  exact dX (r0.2 0 _ _ rfl rfl) (dX (r1.2 0 _ v1 rfl rfl) (dX (r1.2 1 _ v2 rfl rfl) (dX (r1.2 2 _ v3 rfl rfl) (dX (r1.2 3 _ v4 rfl rfl) (dX (r1.2 4 _ v5 rfl rfl) (dX (r1.2 5 _ v6 rfl rfl) Qt))))))
theorem Xh.sm {n:Nd}(h:Xh n):pO n:=by
 have h1:=h.name
 have h2:=h.s
 rw [reachBytes] at h1 h2
 exact ⟨by omega,by omega⟩
theorem abb:Tryz.prog.underlying 56=some (.slice 29):=by kernel_rfl
theorem aeD:Rd Tryz.prog 56 bf ZJ:=by
 intro H eh w fuel cs x h hw
 obtain ⟨v,⟨h1,h2⟩,h3⟩:=Rd.slice (sz:=7) abb aa_ (by kernel_rfl) (by decide) (fun _=>rfl) eh w fuel cs x h hw
 have hb:Tryz.prog.bytesOf 29=72:=by kernel_rfl
 rw [hb,reachBytes] at h1
 exact ⟨v,⟨by omega,fun a ha=>(h2 a ha).c.sm⟩,h3⟩
section
variable {H:Type}{eh:TypeId×Value→H}{w:World}{base:Nat}{v:Value}{d:DataW H}{p:List MemPlace}
end
end Lp
namespace Lp
open Go Go.Proofs
theorem afu:∃ fs:Array Field,Tryz.prog.underlying 51=some (.struct fs)∧fs.toList.map (fun f=>(f.offset,f.type))=[(0,3),(1,3),(2,9),(3,9),(4,3),(5,27)]:=
 ⟨Tryz.prog.fieldsOf 51,by kernel_rfl,by kernel_rfl⟩
instance :Inhabited dY:=⟨⟨0,0,[],[],0,⟨0,0,[],[],false,0⟩⟩⟩
structure afv (a:dY):Prop where
 name:a.name.length≤reachBytes
 s:a.s.length≤reachBytes
 c:Xh a.c
theorem aeE:Rd Tryz.prog 51 aL afv:=by
 intro H eh w fuel cs x h hw
 obtain ⟨fs,ht,hfs⟩:=afu
 obtain ⟨hl,hp⟩:=uV ht h hw
 rw [hfs] at hp
 have hc:Tryz.prog.cellsOf 51=11:=by kernel_rfl
 rw [hc] at hl
 match cs,hl with
 | [v0,v1,v2,v3,v4,v5,v6,v7,v8,v9,v10],_=>
  obtain ⟨n0,y0,a0,b0⟩:=hp 0 0 3 rfl
  obtain ⟨n1,y1,a1,b1⟩:=hp 1 1 3 rfl
  obtain ⟨n2,y2,a2,b2⟩:=hp 2 2 9 rfl
  obtain ⟨n3,y3,a3,b3⟩:=hp 3 3 9 rfl
  obtain ⟨n4,y4,a4,b4⟩:=hp 4 4 3 rfl
  obtain ⟨n5,y5,a5,b5⟩:=hp 5 5 27 rfl
  have hcd:Tryz.prog.cellsOf 27=6:=by kernel_rfl
  rw [hcd] at a5
  rw [one_cell EH (v:=v0) rfl] at a0
  rw [one_cell EH (v:=v1) rfl] at a1
  rw [one_cell Cs (v:=v2) rfl] at a2
  rw [one_cell Cs (v:=v3) rfl] at a3
  rw [one_cell EH (v:=v4) rfl] at a4
  obtain ⟨k,g0,r0⟩:=Rd.int Cq eh w n0 _ _ a0 b0
  obtain ⟨m,g1,r1⟩:=Rd.int Cq eh w n1 _ _ a1 b1
  obtain ⟨nm,g2,r2⟩:=Rd.str Cr eh w n2 _ _ a2 b2
  obtain ⟨s,g3,r3⟩:=Rd.str Cr eh w n3 _ _ a3 b3
  obtain ⟨n,g4,r4⟩:=Rd.int Cq eh w n4 _ _ a4 b4
  obtain ⟨c,g5,r5⟩:=U4 eh w n5 _ _ a5 b5
  refine ⟨⟨k,m,nm,s,n,c⟩,⟨g2,g3,g5⟩,?_⟩
  exact dX (r0.2 0 _ _ rfl rfl) (dX (r1.2 0 _ _ rfl rfl) (dX (r2.2 0 _ _ rfl rfl) (dX (r3.2 0 _ _ rfl rfl) (dX (r4.2 0 _ _ rfl rfl)
   (dX (r5.2 0 _ v5 rfl rfl) (dX (r5.2 1 _ v6 rfl rfl) (dX (r5.2 2 _ v7 rfl rfl) (dX (r5.2 3 _ v8 rfl rfl) (dX (r5.2 4 _ v9 rfl rfl) (dX (r5.2 5 _ v10 rfl rfl) Qt))))))))))
theorem adf:Tryz.prog.underlying 23=some (.slice 51):=by kernel_rfl
theorem aeU:Rd Tryz.prog 23 aA ZI:=by
 intro H eh w fuel cs x h hw
 obtain ⟨v,⟨h1,h2⟩,h3⟩:=Rd.slice (sz:=11) adf aeE (by kernel_rfl) (by decide) (fun _=>rfl) eh w fuel cs x h hw
 have hb:Tryz.prog.bytesOf 51=120:=by kernel_rfl
 rw [hb,reachBytes] at h1
 refine ⟨v,⟨by omega,fun n hn=>?_,fun n hn=>?_⟩,h3⟩
 · have g:=h2 n hn
   have g1:=g.name
   have g2:=g.s
   have g3:=g.c.s
   rw [reachBytes] at g1 g2 g3
   exact ⟨by omega,by omega,by omega⟩
 · have g:=(h2 n hn).c.name
   rw [reachBytes] at g
   omega
end Lp
namespace Lp
open Go Go.Proofs
end Lp
namespace Lp
open Go Go.Proofs
end Lp
namespace Lp
open Go Go.Proofs
theorem KP:aP Tryz.prog 27 58 [.cell 4 3,.cell 5 4] (gen [] [(0,none)] [] Tryz.f27):=bB Tryz.func27 rfl (by kernel_rfl)
theorem JI:aP Tryz.prog 11 44 [.tmp 6,.tmp 7] (gen [42] [] [] Tryz.f11):=bB Tryz.func11 rfl (by kernel_rfl)
theorem JJ:aP Tryz.prog 57 46 [.tmp 4] (gen [] [(4134,some (1,2))] [11] Tryz.f57):=bB Tryz.func57 rfl (by kernel_rfl)
theorem Fb:aP Tryz.prog 87 28 [.tmp 4] (gen [] [] [1,2] Tryz.f87):=bB Tryz.func87 rfl (by kernel_rfl)
theorem gX:aP Tryz.prog 88 8 [.tmp 2] (gen [5] [] [] Tryz.f88):=bB Tryz.func88 rfl (by kernel_rfl)
theorem Im:aP Tryz.prog 20 118 [.tmp 4] (gen [] [] [2,4] Tryz.f20):=bB Tryz.func20 rfl (by kernel_rfl)
theorem Nj:aP Tryz.prog 56 11 [.tmp 5] (gen [] [] [] Tryz.f56):=bB Tryz.func56 rfl (by kernel_rfl)
theorem Au:aP Tryz.prog 10 55 [.tmp 0] (gen [] [] [] Tryz.f10):=bB Tryz.func10 rfl (by kernel_rfl)
end Lp
namespace Lp
open Go Go.Proofs
def ZL (c:Vl→Vl→Int):List Vl→Bool
 | a::b::l=>decide (0≤c b a) && ZL c (b::l)
 | _=>true
end Lp
namespace Lp
open Go Go.Proofs
def ZM (v:Vl) (x:Stp):Vl×Int:=
 if x.part then (if Ez v=5 then (match (bQ v)[x.n.toNat]? with | some w=>(w,0) | none=>([],6)) else ([],5))
 else if Ez v=6 then (match Zr v x.name with | some w=>(w,0) | none=>([],6)) else ([],5)
def aeF:List Stp→Vl→Vl×Int
 | [],v=>(v,0)
 | x::p,v=>if (ZM v x).2=0 then aeF p (ZM v x).1 else ([],(ZM v x).2)
def ZN (s:List UInt8) (v:Vl):Vl:=(aeF (d_ s) v).1
def ZO:Vl→Int
 | []=>0
 | n::_=>n.many
def ZP:Vl→List UInt8
 | []=>[]
 | n::_=>n.s
def aeG (g:aC→Vl→Bool) (v:Vl) (names:List (List UInt8)) (ts:List aC):Bool:=(names.zip ts).all fun x=>match Zr v x.1 with | some w=>g x.2 w | none=>false
def afw (g:aC→Vl→Bool) (ts:List aC) (l:List Vl):Bool:=(ts.zip l).all fun x=>g x.1 x.2
def abd:List UInt8:=[107,101,121]
def adg:List UInt8:=[118,97,108,117,101]
def afx (g:Vl→Bool) (x:Vl):Bool:=match Zr x abd,Zr x adg with
 | some k,some w=>ZO x==2 && Ez k==4 && g w
 | _,_=>false
def acg (g:Vl→Bool):Option (List UInt8)→List Vl→Bool
 | _,[]=>true
 | last,x::l=>afx g x && (match last with | none=>true | some a=>!(Op.bytesLess (ZP (SX x abd)) a || decide (ZP (SX x abd)=a))) && acg g (some (ZP (SX x abd))) l
def aeH:Vl→Vl→Int:=jF lq 1000000
def afy (g:Vl→Bool) (s:List UInt8) (x:Vl):Bool:=Ez x==5 && ZO x !=0 && (bQ x).all g && (bQ x).all fun y=>ZN s y==ZN s ((bQ x).headD [])
def ach (g:Vl→Bool) (s:List UInt8):Option Vl→List Vl→Bool
 | _,[]=>true
 | last,x::l=>afy g s x && (match last with | none=>true | some a=>decide (aeH a (ZN s ((bQ x).headD []))<0)) && ach g s (some (ZN s ((bQ x).headD []))) l
def inF:Nat→aC→Vl→Bool
 | f+1,n::r,v=>
  if n.kind=0 then true
  else if n.kind=1 then v.length==1 && cO n.n (bT (n::r)) (v.headD aM)
  else if n.kind=2 then Ez v==6 && aeG (inF f) v (gP (n::r)) (aG (n::r)) && (n.n==1 || ZO v==(gP (n::r)).length)
  else if n.kind=3 then Ez v==6 && (bQ v).all (inF f ((aG (n::r)).headD []))
  else Ez v==5 && (
   if n.kind=4 then afw (inF f) (aG (n::r)) (bQ v) && (bQ v).length==(aG (n::r)).length
   else if n.kind=6 then acg (inF f ((aG (n::r)).headD [])) none (bQ v)
   else if n.kind=8 then ach (inF f ((aG (n::r)).headD [])) n.s none (bQ v)
   else if n.kind=7 then (bQ v).all (inF f ((aG (n::r)).headD [])) && ZL aeH ((bQ v).map (ZN n.s))
   else (bQ v).all (inF f ((aG (n::r)).headD [])))
 | _,_,_=>false
def inT (t:aC) (v:Vl):Bool:=inF t.length t v
theorem uG.head {n:dY}{r:aC}(h:uG bq d_ (n::r)) (hk:n.kind=3∨n.kind=5∨n.kind=6∨n.kind=7∨n.kind=8):∃ p,aG (n::r)=[p]∧uG bq d_ p∧p.length≤r.length:=by
 obtain ⟨h1,h2,ps,h3,h4,_⟩:=h.parts
 have hm:n.many=1:=by
  rcases hk with k | k | k | k | k <;> simp [bK,k] at h1 <;> omega
 have hl:=Y.bS _ _ _ h3
 have e:aG (n::r)=ps.map Y.j4:=by
  have:n.kind≠1:=by omega
  simp only [aG,this,if_false,iF h3]
 rw [hm] at hl
 match ps,hl with
 | [p],_=>
  have:=h.part (Y.j4 p) (by rw [e];exact List.mem_cons_self ..)
  exact ⟨Y.j4 p,by rw [e];rfl,this⟩
end Lp
namespace Lp
open Go Go.Proofs
structure HKT (K:KT):Type where
end Lp
namespace Lp
open Go Go.Proofs
end Lp
namespace Lp
open Go Go.Proofs
theorem Big.small {v:Vl}(h:Big v) (hl:v.length≤1000000):Small v:=⟨hl,h.txt⟩
theorem aeB.txt {l:List Vl}(h:aeB l):∀ v ∈ l,v.length≤1152921504606846976∧∀ n ∈ v,n.s.length≤4611686018427387904∧n.name.length≤4611686018427387904:=fun v hv=>⟨(h.all v hv).len,(h.all v hv).txt⟩
theorem TY {v:Vl}(hr:Rt v){q:Nd→Prop}(hq:∀ n,q n→q { n with name:=[] }) (hv:∀ n ∈ v,q n):∀ p ∈ bQ v,∀ n ∈ p,q n:=by
 obtain ⟨n,r,rfl,_⟩:=FZ hr.name hr.one.ne
 obtain ⟨h1,h2,ps,h3,h4,_,_,_⟩:=hr.parts
 simp only [bQ,(gF h3).1]
 intro p hp m hm
 obtain ⟨p',hp',rfl⟩:=List.mem_map.1 hp
 have hin:∀ x ∈ p',q x:=fun x hx=>hv x (List.mem_cons_of_mem _ (by rw [← h4];exact List.mem_flatten.2 ⟨p',hp',hx⟩))
 cases p' with
 | nil=>cases hm
 | cons a t=>
  rcases List.mem_cons.1 hm with rfl | hm
  · exact hq a (hin a (by simp))
  · exact hin m (List.mem_cons_of_mem _ hm)
end Lp
namespace Lp
open Go Go.Proofs
end Lp
namespace Lp
open Go Go.Proofs
end Lp
namespace Lp
open Go Go.Proofs
structure KQ (v:Vl):Prop where
 rt:Rt v
 len:v.length≤1000000
 nd:∀ n ∈ v,n.s.length≤1000000∧n.name.length≤4611686018427387904
structure abe (t:aC):Prop where
 wit:zD t
 ss:∀ n ∈ t,n.s.length≤1000000000
theorem abe.part {n:dY}{r:aC}(h:abe (n::r)):∀ p ∈ aG (n::r),abe p∧p.length≤r.length:=by
 intro p hp
 have h1:=h.wit.part p hp
 refine ⟨⟨h1.1,?_⟩,h1.2⟩
 by_cases hk:n.kind=1
 · simp only [aG,hk,if_true] at hp;cases hp
 simp only [aG,hk,if_false] at hp
 obtain ⟨_,_,ps,h3,h4,_⟩:=h.wit.rt.parts
 rw [iF h3] at hp
 obtain ⟨q,hq,rfl⟩:=List.mem_map.1 hp
 have hr:∀ x ∈ q,x ∈ r:=fun x hx=>by rw [← h4];exact List.mem_flatten.2 ⟨q,hq,hx⟩
 intro x hx
 cases q with
 | nil=>cases hx
 | cons y z=>
  rcases List.mem_cons.1 hx with rfl | hx
  · exact h.ss y (List.mem_cons_of_mem _ (hr y (List.mem_cons_self ..)))
  · exact h.ss x (List.mem_cons_of_mem _ (hr x (List.mem_cons_of_mem _ hx)))
theorem KQ.part {v:Vl}(h:KQ v):∀ p ∈ bQ v,KQ p∧p.length<v.length:=by
 intro p hp
 have h1:=Vb h.rt hp
 have hl:=h.len
 exact ⟨⟨h1.1,by omega,TY h.rt (q:=fun n=>n.s.length≤1000000∧n.name.length≤4611686018427387904) (fun n h=>⟨h.1,by simp⟩) h.nd p hp⟩,h1.2⟩
theorem KQ.ok2 {v:Vl}(h:KQ v):Ok2 v:=by
 refine ⟨h.rt.one,h.len,fun n hn hk=>?_⟩
 obtain ⟨i,hi,rfl⟩:=List.mem_iff_getElem.1 hn
 have hp:=(h.rt.good i v[i] (v.drop (i+1)) (List.drop_eq_getElem_cons hi)).1
 simp only [bH,hk,Int.reduceEq,or_self,if_false,if_true,rM,Bool.and_eq_true,decide_eq_true_eq] at hp
 obtain ⟨⟨⟨⟨⟨⟨_,h2⟩,h3⟩,h4⟩,h5⟩,_⟩,_⟩:=hp
 exact ⟨by omega,h2,h4,h5⟩
def abf (f:Nat):dF:=fun args objs K=>match args with
 | [a0,a1]=>fB aA a0 (HK.mk:HK fun t=>fB aS a1 (HK.mk:HK fun v=>(t.length≤f)∧(abe t)∧(KQ v)∧K (.bool (inT t v)) objs 0))
 | _=>False
theorem Xk (p:List Stp) (t:aC):jA p (Y.j4 t)=jA p t:=by
 cases t with
 | nil=>rfl
 | cons n r=>cases p <;> rfl
section
variable {f:Nat}(hin:aB Tryz.prog 18 (abf f))
include hin
end
end Lp
namespace Lp
open Go Go.Proofs
theorem uG.key {n:dY}{r p:aC}(h:uG bq d_ (n::r)) (hk:n.kind=7∨n.kind=8) (hp:aG (n::r)=[p]):(jA (d_ n.s) p).isSome=true:=by
 obtain ⟨_,_,ps,h3,_,_,h6,_⟩:=h.parts
 have e:aG (n::r)=ps.map Y.j4:=by
  have:n.kind≠1:=by omega
  simp only [aG,this,if_false,iF h3]
 rw [e] at hp
 match ps,hp with
 | [q],hp=>
  simp only [List.map_cons,List.map_nil,List.cons.injEq,and_true] at hp
  subst hp
  rw [Xk]
  simp only [vN,hk,if_true] at h6
  unfold jc at h6
  cases hl:jA (d_ n.s) q with
  | none=>rw [hl] at h6;cases h6
  | some j=>rfl
end Lp
namespace Lp
open Go Go.Proofs
end Lp
namespace Lp
open Go Go.Proofs
end Lp
namespace Lp
open Go Go.Proofs
def iE (a:fQ):dY:=⟨9,0,[],[],a.n,a.c⟩
def Xl (t:aC) (i:Nat) (a:fQ):aC:=match t[i]? with
 | some x=>t.take i++({ x with many:=x.many+1 }::((t.drop (i+1)).take x.many.toNat++iE a::t.drop (i+1+x.many.toNat)))
 | none=>t
theorem Y.EI (nm:List UInt8):∀ (o:Nat) (ps:List aC) (o':Nat) (q:aC),lU nm o ps=some (o',q)→∃ A B,ps=A++q::B∧o'=o+A.flatten.length∧Y.nameOf q=nm
 | _,[],_,_,h=>by cases h
 | o,b::ps,o',q,h=>by
  rw [lU] at h
  split at h
  · rename_i hn;cases h;exact ⟨[],ps,rfl,rfl,hn⟩
  · obtain ⟨A,B,rfl,h2,h3⟩:=Y.EI nm _ ps o' q h
    exact ⟨b::A,B,rfl,by rw [h2];simp only [List.flatten_cons,List.length_append];omega,h3⟩
section
variable {pk:List UInt8→Bool}{qM:List UInt8→List Stp}
theorem ZQ {a:fQ}(ha:gG a=true):Y.One [iE a]∧Y.Good (jS pk qM) [iE a]:=by
 refine ⟨rfl,?_⟩
 intro i n r h
 cases i with
 | succ i=>simp at h
 | zero=>
  simp only [List.drop_zero,List.cons.injEq] at h
  obtain ⟨rfl,rfl⟩:=h
  refine ⟨[],rfl,?_⟩
  have:gG ⟨(iE a).n,(iE a).c⟩=true:=ha
  simp [jS,bK,iE,sI,vN,wD]
  exact ha
theorem KR {x:dY}{ps:List aC}(hn:x.many=ps.length) (ho:∀ p ∈ ps,Y.One p) (hg:∀ p ∈ ps,Y.Good (jS pk qM) p) (hx:jS pk qM x ps=true):Y.One (x::ps.flatten)∧Y.Good (jS pk qM) (x::ps.flatten):=by
 refine ⟨Y.One.made hn ho,?_⟩
 intro i m s hd
 cases i with
 | succ i=>exact Y.Good.made ps ho hg i m s (by simpa using hd)
 | zero=>
  simp only [List.drop_zero,List.cons.injEq] at hd
  obtain ⟨rfl,rfl⟩:=hd
  exact ⟨ps,by rw [hn,Int.toNat_natCast];exact Y.iV ps ho,hx⟩
theorem Qu {p:List Stp}{t:aC}{i:Nat}(h:jc p t=some i):∃ x,t[i]?=some x∧x.kind=1∧jA p t=some i:=by
 unfold jc at h
 cases hl:jA p t with
 | none=>rw [hl] at h;cases h
 | some j=>
  rw [hl] at h
  simp only at h
  split at h
  · rename_i hk
    cases h
    cases hx:t[i]? with
    | none=>rw [hx] at hk;cases hk
    | some x=>rw [hx] at hk;exact ⟨x,rfl,by simpa using hk,rfl⟩
  · cases h
theorem Xm {t:aC}{i:Nat}{x:dY}(hg:Y.Good (jS pk qM) t) (hx:t[i]?=some x):i+1+x.many.toNat≤t.length:=by
 obtain ⟨hi,rfl⟩:=List.getElem?_eq_some_iff.1 hx
 obtain ⟨ps,h1,_⟩:=hg i t[i] (t.drop (i+1)) (List.drop_eq_getElem_cons hi)
 have:=Y.eO _ _ _ h1
 rw [List.length_drop] at this
 omega
end
end Lp
namespace Lp
open Go Go.Proofs
open List (flatten_cons length_cons mem_singleton)
open Nat (reduceAdd reduceLeDiff reduceMul reduceSub)
open Int (reduceLE reduceToNat)
theorem KS (nm:List UInt8):∀ (o:Nat) (ps:List aC) (i:Nat) (q:aC),ps[i]?=some q→Y.nameOf q=nm→(∀ (j:Nat) q',j<i→ps[j]?=some q'→Y.nameOf q'≠nm)→lU nm o ps=some (o+(ps.take i).flatten.length,q)
 | _,[],_,_,h,_,_=>by simp at h
 | o,b::ps,0,q,h,hn,_=>by
  simp only [List.getElem?_cons_zero,Option.some.injEq] at h
  subst h
  simp [lU,hn]
 | o,b::ps,i+1,q,h,hn,hb=>by
  have hbn:Y.nameOf b≠nm:=hb 0 b (by omega) rfl
  rw [lU,if_neg hbn,KS nm _ ps i q (by simpa using h) hn fun j q' hj hq=>hb (j+1) q' (by omega) (by simpa using hq)]
  simp only [List.take_succ_cons,flatten_cons,List.length_append,Option.some.injEq,Prod.mk.injEq,and_true]
  omega
theorem Qv (nm:List UInt8):∀ (o:Nat) (ps:List aC),(∀ (j:Nat) q',ps[j]?=some q'→Y.nameOf q'≠nm)→lU nm o ps=none
 | _,[],_=>rfl
 | o,b::ps,hb=>by
  rw [lU,if_neg (hb 0 b rfl)]
  exact Qv nm _ ps fun j q' hq=>hb (j+1) q' (by simpa using hq)
theorem Qw:∀ (ps:List aC) (i0 k:Nat) (p:aC),ps[k]?=some p→(jE i0 ps)[k]?=some [.int .i64 ((i0+(ps.take k).flatten.length:Nat):Int),.int .i64 ((i0+(ps.take k).flatten.length+p.length:Nat):Int)]
 | [],_,_,_,h=>by simp at h
 | b::ps,i0,0,p,h=>by
  simp only [List.getElem?_cons_zero,Option.some.injEq] at h
  subst h
  simp [jE]
 | b::ps,i0,k+1,p,h=>by
  simp only [jE,List.getElem?_cons_succ]
  rw [Qw ps (i0+b.length) k p (by simpa using h)]
  simp only [List.take_succ_cons,flatten_cons,List.length_append,Nat.add_assoc]
theorem ZR {s:Stp}{p:List Stp}{x:dY}{r:aC}{ps:List aC}{o:Nat}{q:aC}(hpo:Y.partsOf x r=ps) (hfl:ps.flatten=r) (hone:∀ p ∈ ps,Y.One p) (hk:x.kind=2) (hs:s.part=false) (hf:lU s.name 1 ps=some (o,q)):jc (s::p) (x::r)=(jc p q).map (o+·):=by
 obtain ⟨A,B,hAB,ho,_⟩:=Y.EI _ _ _ _ _ hf
 have hl:jA (s::p) (x::r)=(jA p q).map (o+·):=by
  rw [jA,if_pos ⟨hk,hs⟩,hpo,hf]
 unfold jc
 rw [hl]
 cases hq:jA p q with
 | none=>rfl
 | some j=>
  simp only [Option.map_some]
  have hqm:q ∈ ps:=by rw [hAB];simp
  have hjl:j<q.length:=by
   have h0:0<q.length:=List.length_pos_iff.2 (hone q hqm).ne
   have:=P6 (p:=p) (hone q hqm) h0
   simp only [jP,Y.Te (hone q hqm),hq,Nat.zero_add] at this
   omega
  have e:(x::r)[o+j]?=q[j]?:=by
   rw [← hfl,hAB,ho,show 1+A.flatten.length+j=(A.flatten.length+j)+1 by omega,List.getElem?_cons_succ,List.flatten_append,List.getElem?_append_right (by omega),Nat.add_sub_cancel_left,flatten_cons,List.getElem?_append_left hjl]
  rw [e]
  split <;> simp
def XK (t:aC) (p:List Stp) (n:Int) (b:Bool):List Obj:=[yZ t,⟨25,1,[gL p],true,1⟩,⟨3,1,[.int .i64 n],true,1⟩,⟨4,1,[.bool b],true,1⟩]
theorem Qx (t:aC) (p:List Stp) (n:Int) (b:Bool):eX (XK t p n b++[wz,hole]):=by
 intro o ho y hy c hc
 simp only [XK,yZ,List.cons_append,List.nil_append,List.mem_cons,List.not_mem_nil,or_false] at ho
 rcases ho with rfl | rfl | rfl | rfl | rfl | rfl
 · simp only [mem_singleton] at hy;subst hy
   simp only [aA,PV.cells,mem_singleton] at hc;subst hc;rfl
 · simp only [mem_singleton] at hy;subst hy
   simp only [gL,PV.cells,mem_singleton] at hc;subst hc;rfl
 · simp only [mem_singleton] at hy;subst hy
   simp only [PV.cells,mem_singleton] at hc;subst hc;rfl
 · simp only [mem_singleton] at hy;subst hy
   simp only [PV.cells,mem_singleton] at hc;subst hc;rfl
 · cases hy
 · cases hy
theorem ZT (t:aC) (p:List Stp) (n:Int) (b:Bool):Gh 4 (XK t p n b++[wz,hole]):=⟨Nat.le_refl _,(Qx t p n b).lt,rfl,rfl⟩
def Io (t:aC) (p:List Stp):Int:=match jc p t with | some i=>(i:Int) | none=>0
def Ct (p:List Stp):dF:=fun args objs K=>match args with
 | [a,b]=>fB aA a (HK.mk:HK fun q=>b=gL p∧q.length≤1000000∧Y.One q∧K (oO q p) objs 0)
 | _=>False
theorem Ip:∀ (p:List Stp) (t:aC),t.length≤1000000→Y.One t→p.length≤1000000→ai Tryz.prog 27 [aA t,gL p] [] (oO t p) []
 | [],t,hl,ho,_=>by
  refine KP.SV (T:=aR Tryz.prog []) 1 hD (aj ah) a_ (by decide) (by decide) fun Q hQ=>?_
  obtain ⟨n,r,ps,hv,hm,hp,hfl,hps,hpo,hmn,GY⟩:=qI t ho
  have hg0:t[0]?=some n:=by rw [hv];rfl
  have hres:oO t []=.b_ [.int .i64 0,.bool (decide (n.kind=1))]:=by
   simp only [oO,jc,jA,hg0,Option.map_some,Option.some.injEq]
   by_cases hk:n.kind=1 <;> simp [hk]
  have c00:((0:Nat):Int)=0:=rfl
  (conv=>arg 4;cbv);simp(maxSteps:=400000)only[↓av,ax,BEq.rfl,reduceIte,reduceCtorEq,Nat.reduceLT,reduceAdd,reduceSub,reduceMul,Nat.reduceBEq,reduceLeDiff,reduceToNat,reduceLE,hQ,hg0,c00]
  and_intros <;> first | rfl | decide | exact Nat.le_refl _ | (rw [hres];rfl)
 | s::p,t,hl,ho,hpl=>by
  have hok:aB Tryz.prog 27 (Ct p):=by
   intro args objs K h
   unfold Ct at h
   split at h
   · obtain ⟨q,rfl,rfl,h1,h2,hk⟩:=h
     exact ⟨_,_,_,.pure _ rfl (Ip p q h1 h2 (by simp only [length_cons] at hpl;omega)),hk⟩
   · exact h.elim
  refine KP.SV (T:=aR Tryz.prog [(63,uh),(27,_)]) 1 hD (aj (af EF (af hok ah))) a_ (by decide) (by decide) fun Q hQ=>?_
  obtain ⟨n,r,ps,hv,hm,hp,hfl,hps,hpo,hmn,GY⟩:=qI t ho
  have hg0:t[0]?=some n:=by rw [hv];rfl
  have hgs:(s::p)[0]?=some s:=rfl
  have hdr:(s::p).drop 1=p:=rfl
  have hpn:(((s::p).length:Int)=0)=False:=eq_false (by simp only [length_cons];omega)
  have hwl:1≤(s::p).length:=by simp
  have hno:¬ (n.kind=2∧s.part=false)→oO t (s::p)=.b_ [.int .i64 0,.bool false]:=fun h=>by
   have:jc (s::p) t=none:=by rw [hv];simp only [jc,jA];rw [if_neg h]
   simp [oO,this]
  generalize hsp:s::p=w at *
  by_cases hk:n.kind=2
  rotate_left 1
  · have hk':=eq_false hk
    have hres:=hno fun h=>hk h.1
    (conv=>arg 4;cbv);simp(maxSteps:=400000)only[↓av,ax,BEq.rfl,reduceIte,reduceCtorEq,Nat.reduceLT,reduceAdd,reduceSub,reduceMul,Nat.reduceBEq,reduceLeDiff,reduceToNat,reduceLE,hQ,hg0,hpn,hk']
    and_intros <;> first | rfl | decide | exact Nat.le_refl _ | (rw [hres];rfl)
  cases hpt:s.part with
  | true=>
   have hres:=hno fun h=>by rw [hpt] at h;cases h.2
   (conv=>arg 4;cbv);simp(maxSteps:=400000)only[↓av,ax,BEq.rfl,reduceIte,reduceCtorEq,Nat.reduceLT,reduceAdd,reduceSub,reduceMul,Nat.reduceBEq,reduceLeDiff,reduceToNat,reduceLE,hQ,hg0,hpn,hk,hgs,hpt,Int.reduceEq]
   and_intros <;> first | rfl | decide | exact Nat.le_refl _ | (rw [hres];rfl)
  | false=>
  have hd1:t.drop 1=r:=by rw [hv];rfl
  have hgv:=EG t n ps ho hl hg0 (by rw [hd1];exact hp) hm
  rw [if_neg (by omega)] at hgv
  (conv=>arg 4;cbv);simp(maxSteps:=400000)only[↓av,ax,BEq.rfl,reduceIte,reduceCtorEq,Nat.reduceLT,reduceAdd,reduceSub,reduceMul,Nat.reduceBEq,reduceLeDiff,reduceToNat,reduceLE,hQ,hg0,hpn,hk,hgs,hpt,Int.reduceEq,↓uh]
  refine UG 93 [.addr (aA t)] (jE 1 ps)
   (fun i O=>(∀ (j:Nat) q,j<i→ps[j]?=some q→Y.nameOf q≠s.name)∧i≤ps.length∧O=XK t w 0 false++[wz,hole])
   (fun i O=>O=XK t w (Io t w) (jc w t).isSome++[wz,hole]) .ret rfl rfl rfl rfl trivial hgv (DW ps 1) ⟨fun j q h=>absurd h (Nat.not_lt_zero j),Nat.zero_le _,rfl⟩ ?_ ?_ ?_ ?_ ?_
  · rintro i O ⟨_,_,rfl⟩
    exact ZT t w 0 false
  · rintro i O rfl
    exact ⟨ZT t w _ _,Qx t w _ _⟩
  · rintro i args O ⟨hb,hi,rfl⟩ ha
    obtain ⟨q,o,hqi,rfl,h3⟩:=DX t ps 1 i args (by rw [hd1,hfl];simp) ha
    have hil:=(List.getElem?_eq_some_iff.1 hqi).1
    have hqo:=hps q (List.mem_of_getElem? hqi)
    have hat:=Qw ps 1 i q hqi
    rw [ha] at hat
    simp only [Option.some.injEq,List.cons.injEq,PV.int.injEq,true_and,and_true] at hat
    have hoo:o=1+(ps.take i).flatten.length:=by omega
    have XO:o+q.length≤t.length:=by
     have:=congrArg List.length h3
     rw [List.length_take,List.length_drop] at this
     have:=List.length_pos_iff.2 hqo.ne
     omega
    obtain ⟨y,q',hqy⟩:∃ y q',q=y::q':=by
     cases q with
     | nil=>exact absurd rfl hqo.ne
     | cons y q'=>exact ⟨y,q',rfl⟩
    have hgo:t[o]?=some y:=by
     have:=congrArg (fun l=>l[0]?) h3
     simp only [hqy,List.getElem?_cons_zero,length_cons] at this
     rw [List.getElem?_take_of_lt (by omega),List.getElem?_drop,Nat.add_zero] at this
     exact this
    have hny:Y.nameOf q=y.name:=by rw [hqy];rfl
    have zo:(0≤(o:Int))=True:=eq_true (by omega)
    have c1:((o:Int)≤((o+q.length:Nat):Int))=True:=eq_true (by omega)
    have c2:(((o+q.length:Nat):Int)≤(t.length:Int))=True:=eq_true (by omega)
    have hsl:List.drop o (List.take (o+q.length) t)=q:=by rw [List.drop_take,show o+q.length-o=q.length by omega,h3]
    unfold XK yZ
    by_cases he:y.name=s.name
    · have he':(y.name=s.name)=True:=eq_true he
      have hin:=ZR (s:=s) (p:=p) (hpo) hfl hps hk hpt (KS s.name 1 ps i q hqi (by rw [hny,he]) hb)
      rw [← hv,hsp,← hoo] at hin
      cases hlf:jc p q with
      | none=>
       have hr:oO q p=.b_ [.int .i64 0,.bool false]:=by simp [oO,hlf]
       rw [hlf] at hin
       simp(maxSteps:=400000)only[↓av,ax,BEq.rfl,reduceIte,reduceCtorEq,Nat.reduceLT,reduceAdd,reduceSub,reduceMul,Nat.reduceBEq,reduceLeDiff,reduceToNat,reduceLE,hQ,qx,knI,he',zo,c1,c2,hsl,hgo,hgs,hdr,hr,↓Ct,bA,Int.toNat_natCast,List.take_length]
       have hN:Io t w=0:=by simp [Io,hin]
       have hS:(jc w t).isSome=false:=by rw [hin];rfl
       have e:XK t w 0 false++[wz,hole]=XK t w (Io t w) (jc w t).isSome++[wz,hole]:=by rw [hN,hS]
       exact ⟨by omega,Int.le_refl _,by omega,hqo,rfl,e⟩
      | some j=>
       have hr:oO q p=.b_ [.int .i64 j,.bool true]:=by simp [oO,hlf]
       rw [hlf] at hin
       have hjl:j<q.length:=by
        obtain ⟨x,hx,_⟩:=Qu hlf
        exact (List.getElem?_eq_some_iff.1 hx).1
       simp(maxSteps:=400000)only[↓av,ax,BEq.rfl,reduceIte,reduceCtorEq,Nat.reduceLT,reduceAdd,reduceSub,reduceMul,Nat.reduceBEq,reduceLeDiff,reduceToNat,reduceLE,hQ,qx,knI,he',zo,c1,c2,hsl,hgo,hgs,hdr,hr,↓Ct,bA,Int.toNat_natCast,List.take_length]
       have hN:Io t w=(o:Int)+j:=by simp [Io,hin]
       have hS:(jc w t).isSome=true:=by rw [hin];rfl
       have e:XK t w ((o:Int)+j) true++[wz,hole]=XK t w (Io t w) (jc w t).isSome++[wz,hole]:=by rw [hN,hS]
       exact ⟨by omega,Int.le_refl _,by omega,hqo,⟨by omega,by omega⟩,rfl,e⟩
    · have he':(y.name=s.name)=False:=eq_false he
      simp(maxSteps:=400000)only[↓av,ax,BEq.rfl,reduceIte,reduceCtorEq,Nat.reduceLT,reduceAdd,reduceSub,reduceMul,Nat.reduceBEq,reduceLeDiff,reduceToNat,reduceLE,hQ,qx,knI,he',zo,hgo,hgs,Int.toNat_natCast]
      refine ⟨fun j q2 hj hq=>?_,by omega,rfl⟩
      rcases Nat.lt_or_ge j i with g | g
      · exact hb j q2 g hq
      · have:j=i:=by omega
        subst this
        rw [hqi] at hq;cases hq;rw [hny];exact he
  · rintro O ⟨hb,hi,rfl⟩
    unfold XK yZ
    simp(maxSteps:=400000)only[↓av,ax,BEq.rfl,reduceIte,reduceCtorEq,Nat.reduceLT,reduceAdd,reduceSub,reduceMul,Nat.reduceBEq,reduceLeDiff,reduceToNat,reduceLE,hQ]
    have hres:oO t w=.b_ [.int .i64 0,.bool false]:=by
     have:jc w t=none:=by
      rw [hv,← hsp]
      have hf:=Qv s.name 1 ps fun j q hq=>hb j q (by rw [ug];exact (List.getElem?_eq_some_iff.1 hq).1) hq
      simp only [jc,jA];rw [hpo,hf];simp
     simp [oO,this]
    and_intros <;> first | rfl | decide | exact Nat.le_refl _ | (rw [hres];rfl)
  · rintro i O hi rfl
    unfold XK yZ
    simp(maxSteps:=400000)only[↓av,ax,BEq.rfl,reduceIte,reduceCtorEq,Nat.reduceLT,reduceAdd,reduceSub,reduceMul,Nat.reduceBEq,reduceLeDiff,reduceToNat,reduceLE,hQ]
    exact ⟨_,_,rfl,rfl,rfl,rfl,Nat.le_refl _,rfl,_,_,rfl,rfl,rfl,rfl,Nat.le_refl _,rfl,rfl⟩
def xG:dF:=fun args objs K=>match args with
 | [a0,a1]=>fB aA a0 (HK.mk:HK fun t=>fB gL a1 (HK.mk:HK fun p=>(t.length≤1000000)∧(Y.One t)∧(p.length≤1000000)∧K (oO t p) objs 0))
 | _=>False
theorem Qy:aB Tryz.prog 27 (xG):=by
 intro args objs K h
 unfold xG at h
 split at h
 · rename_i a0 a1
   obtain ⟨t,rfl,p,rfl,h1,h2,h3,hk⟩:=h
   exact ⟨_,_,_,.pure _ rfl (Ip p t h1 h2 h3),hk⟩
 · exact h.elim
structure afz (p:List Stp):Prop where
 len:p.length≤4611686018427387904
 txt:∀ s ∈ p,s.name.length≤4611686018427387904
end Lp
namespace Lp
open Go Go.Proofs Go.Lib Go.RowKit
open Nat (mul_le_mul_right one_mul succ_mul)
section
variable {P:Program}
def spl (cur:Array Value) (o:Nat) (vs:List Value):Array Value:=(cur.toList.take o++vs++cur.toList.drop (o+vs.length)).toArray
def mid (cur:Array Value) (i n z:Nat):List Value:=(cur.toList.take (n*z)).drop (i*z)
theorem FT {cur:Array Value}{o:Nat}{vs:List Value}(hl:o+vs.length≤cur.size) (q:Nat) :
  (spl cur o vs)[q]?=if q<o then cur[q]? else if q<o+vs.length then vs[q-o]? else cur[q]?:=by
 have hlen:(cur.toList.take o).length=o:=by simp;omega
 simp only [spl,List.getElem?_toArray,List.append_assoc]
 rw [List.getElem?_append,hlen]
 split
 · rename_i h;rw [List.getElem?_take,if_pos h];simp
 · rename_i h
   rw [List.getElem?_append]
   split
   · rename_i h2;rw [if_pos (by omega)]
   · rename_i h2
     rw [if_neg (by omega),List.getElem?_drop,show o+vs.length+(q-o-vs.length)=q by omega];simp
theorem uj {cur:Array Value}{o:Nat}{vs:List Value}(hl:o+vs.length≤cur.size):(spl cur o vs).size=cur.size:=by
 simp [spl];omega
theorem og (w:World) (dT sT ty elem:TypeId) (inf:TypeInfo) (g o dLen dCap:Nat) (a:Addr) (sLen sCap n:Nat) (cur:Array Value) (t:TypeId) (cs:List Value)
  (hu:P.underlying dT=some (.slice elem)) (hi:P.info? elem=some inf) (hg:w.heap[g]?=some (.cells cur t (0,0))) (hn:n=Nat.min sLen dLen) (hl:cs.length=n*inf.size)
  (hsrc:∀ j v,cs[j]?=some v→w.cell? (a.add j)=some v) (hfit:o+cs.length≤cur.size) (h1:∀ v ∈ cs,v.oneCell'=true) :
  (Builtin.copy_ #[dT,sT] ty #[.slice (some ⟨g,o,none⟩) dLen dCap,.slice (some a) sLen sCap]).run P w=
   .ok (goInt n) (w.setRow g (spl cur o cs)):=by
 have h2:=run_loadCells_list (P:=P) w a cs hsrc
 have hst:=run_storeCells_at P g o t cs 0 cur w hg (by simpa using hfit) h1
 rw [hl] at h2
 rw [hn] at h2
 simp only [Nat.min_def] at h2
 simp [Builtin.copy_,run_underlying hu,Builtin.lenOf,Builtin.firstCells,Go.sizeOf,typeInfo,hi,hn,Nat.min_def,h2,hst,spl]
theorem EJ {w:World}{g:Nat}{cur:Array Value}{t:TypeId}(hg:w.heap[g]?=some (.cells cur t (0,0))) (o:Nat):w.frozen? ⟨g,o,none⟩=false:=by
 simp [World.frozen?,hg]
theorem ZU {α:Type}(xs:List α) (x:α) (i m:Nat) (hi:i≤xs.length):(xs.take i++[x]++xs.drop i)[m]?=if m<i then xs[m]? else if m=i then some x else xs[m-1]?:=by
 have ht:(xs.take i).length=i:=by simp;omega
 rw [List.append_assoc,List.getElem?_append,ht]
 split
 · rename_i h;rw [List.getElem?_take,if_pos h]
 · rename_i h
   rw [List.getElem?_append]
   split
   · rename_i h2
     have:m=i:=by simp at h2;omega
     rw [if_pos this,this];simp
   · rename_i h2
     simp at h2
     rw [if_neg (by omega),List.getElem?_drop]
     congr 1;simp;omega
theorem bC.aeI {R:PV→Value→Prop}{z:Nat}{xs:List PV}{c c':Array Value}{x:PV}{s:List Value}{i:Nat}(h:bC R z c xs) (hs:bC R z ⟨s⟩ [x]) (hi:i≤xs.length)
  (h1:∀ q,q<i*z→c'[q]?=c[q]?) (h2:∀ q,q<z→c'[i*z+q]?=s[q]?) (h3:∀ q,i*z≤q→q<xs.length*z→c'[q+z]?=c[q]?) :
  bC R z c' (xs.take i++[x]++xs.drop i):=by
 intro m y hy
 rw [ZU xs x i m hi] at hy
 have hlt:∀ {u:PV}{j:Nat}{p:PV},u.cells.length=z→u.cells[j]?=some p→j<z:=fun h1 h2=>by rw [← h1];exact (List.getElem?_eq_some_iff.1 h2).1
 split at hy
 · rename_i hm
   obtain ⟨z1,z2⟩:=h m y hy
   refine ⟨z1,fun j p hp=>?_⟩
   have hj:=hlt z1 hp
   have hmz:(m+1)*z≤i*z:=mul_le_mul_right _ hm
   rw [succ_mul] at hmz
   obtain ⟨v,u1,u2⟩:=z2 j p hp
   exact ⟨v,by rw [h1 _ (by omega)];exact u1,u2⟩
 · split at hy
   · rename_i hm
     cases hy
     obtain ⟨z1,z2⟩:=hs 0 x rfl
     refine ⟨z1,fun j p hp=>?_⟩
     have hj:=hlt z1 hp
     obtain ⟨v,u1,u2⟩:=z2 j p hp
     rw [Nat.zero_mul,Nat.zero_add] at u1
     exact ⟨v,by rw [hm,h2 _ hj];simpa using u1,u2⟩
   · rename_i hm1 hm2
     obtain ⟨z1,z2⟩:=h (m-1) y hy
     have hml:m-1<xs.length:=(List.getElem?_eq_some_iff.1 hy).1
     refine ⟨z1,fun j p hp=>?_⟩
     have hj:=hlt z1 hp
     obtain ⟨v,u1,u2⟩:=z2 j p hp
     have e0:m=(m-1)+1:=by omega
     have e:m*z+j=((m-1)*z+j)+z:=by rw [e0,succ_mul,Nat.add_sub_cancel];omega
     have g1:i*z≤(m-1)*z:=mul_le_mul_right _ (by omega)
     have g2:(m-1+1)*z≤xs.length*z:=mul_le_mul_right _ hml
     rw [succ_mul] at g2
     exact ⟨v,by rw [e,h3 _ (by omega) (by omega)];exact u1,u2⟩
structure adh (P:Program) (f:FuncId) (sT uT ty:TypeId) (z by':Nat):Prop where
 ent:Enters P f
 shift:∀ (g n c i vb voff vc:Nat) (cur Iq:Array Value) (tv:TypeId) (ss:List Value) (w:World),i<n→n+1≤c→c≤9223372036854775807→
  w.heap[g]?=some (.cells cur ty (0,0))→cur.size=c*z→w.heap[vb]?=some (.cells Iq tv (0,0))→vb≠g→ss.length=z→
  (∀ j v,ss[j]?=some v→w.cell? ⟨vb,voff+j,none⟩=some v)→(∀ v ∈ ss,v.oneCell'=true)→(∀ v ∈ mid cur i n z,v.oneCell'=true)→
  Calls P f #[.slice (some ⟨g,0,none⟩) n c,.int .i64 i,.slice (some ⟨vb,voff,none⟩) 1 vc] w fun e w'=>
   e=.returned (.slice (some ⟨g,0,none⟩) (n+1) c)∧w'=(w.drew.setRow g (spl cur ((i+1)*z) (mid cur i n z))).setRow g (spl (spl cur ((i+1)*z) (mid cur i n z)) (i*z) ss)
 fin:∀ (base:Option Addr) (n c vb voff vc:Nat) (w w':World) (v':Value),(base=none→n=0∧c=0)→n≤c→c≤9223372036854775807→
  (∀ ty',(Builtin.append_ #[sT,uT] ty' #[.slice base n c,.slice (some ⟨vb,voff,none⟩) 1 vc]).run P w=.ok v' w')→
  Calls P f #[.slice base n c,.int .i64 n,.slice (some ⟨vb,voff,none⟩) 1 vc] w fun e w1=>e=.returned v'∧w1=w'
 grow:∀ (g n c i vb voff vc:Nat) (cur:Array Value) (ss:List Value) (w:World),i<n→n≤c→c<n+1→(n+1)*by'≤140737488355328→
  w.heap[g]?=some (.cells cur ty (0,0))→cur.size=c*z→vb<w.heap.size→ss.length=z→
  (∀ j v,ss[j]?=some v→w.cell? ⟨vb,voff+j,none⟩=some v)→(∀ v ∈ ss,v.oneCell'=true)→(∀ v ∈ mid cur i n z,v.oneCell'=true)→
  ∃ row:Array Value,row.size=grownCap w (n+1) c ty*z∧(∀ q,q<i*z→row[q]?=cur[q]?)∧
   Calls P f #[.slice (some ⟨g,0,none⟩) n c,.int .i64 i,.slice (some ⟨vb,voff,none⟩) 1 vc] w fun e w'=>
    e=.returned (.slice (some ⟨w.heap.size,0,none⟩) (n+1) (grownCap w (n+1) c ty))∧
    w'=((((w.drew.alloc (.cells row ty)).setRow w.heap.size (spl row (i*z) ss)).drew).setRow w.heap.size (spl (spl row (i*z) ss) ((i+1)*z) (mid cur i n z)))
variable {base ak:Nat→Prop}{w0:Wz}{blk:Nat→Option Nat}{a:Act}{w:World}
structure Qz (ty:TypeId) (z:Nat) (R:PV→Value→Prop) (old:Option Nat) (w:World) (ys:List PV) (v':Value) (w':World) (gb:Nat):Prop where
 size:w.heap.size≤w'.heap.size
 sm:Sm w w'
 kept:∀ b y,old≠some b→w.heap[b]?=some y→w'.heap[b]?=some y
 at':old=some gb∨w.heap.size≤gb
 cells:∃ cap c,v'=.slice (some ⟨gb,0,none⟩) ys.length cap∧w'.heap[gb]?=some (.cells c ty (0,0))∧ys.length≤cap∧cap≤maxLen∧c.size=cap*z∧bC R z c ys
theorem Qz.rel {tmps:List PV}{objs:List Obj}{k ver:Nat}{ob:Obj}{ys:List PV}{v':Value}{w':World}{gb:Nat}(R:Rel base ak w0 ⟨tmps,objs⟩ blk a w) (h1:objs[k]?=some ob) (h2:ob.live=true) (h3:ob.ver=ver)
  (hM:ob.ty≠MT) (L:Qz ob.ty ob.sz (bD w (bR base objs blk) objs blk) (blk k) w ys v' w' gb) :
  Rel base ak w0 ⟨tmps,objs.set k { ob with xs:=ys,ver:=ver+1 }⟩ (aF blk k (some gb)) a w'∧
  aX w' (bR base (objs.set k { ob with xs:=ys,ver:=ver+1 }) (aF blk k (some gb))) (objs.set k { ob with xs:=ys,ver:=ver+1 }) (aF blk k (some gb)) (.bG k (ver+1)) v':=by
 obtain ⟨cap,c,hv,z1,z2,z3,z4,z5⟩:=L.cells
 have hb:aF blk k (some gb) k=some gb:=by unfold aF;rw [if_pos rfl]
 constructor
 · refine R.setObj L.sm (o':={ ob with xs:=ys,ver:=ver+1 }) h1 h2 h2 L.size L.kept (fun g hg=>by cases hg;exact L.at') (by simp;omega) (fun hv=>by simp at hv;omega) (fun hr=>?_)
   refine Kb (gb:=some gb) (R:=bD w (bR base objs blk) objs blk) hb ?_ hM hr
   exact ⟨cap,c,z1,z2,z4,z5⟩
 · refine ⟨by rw [hv];rfl,{ ob with xs:=ys,ver:=ver+1 },?_,Nat.le_refl _,fun _ _=>⟨hM,?_⟩⟩
   · rw [List.getElem?_set];simp [(List.getElem?_eq_some_iff.1 h1).1]
   · unfold yJ
     rw [hb]
     exact ⟨cap,c,hv,z1,z2,z3,z4⟩
theorem adi {R:PV→Value→Prop}{p q r:PV}{vs:List Value}(h:cZ R [p,q,r] vs):∃ u v x,vs=[u,v,x]∧R p u∧R q v∧R r x:=by
 obtain ⟨hl,h⟩:=h
 match vs,hl with
 | [u,v,x],_=>exact ⟨u,v,x,rfl,h 0 _ _ rfl rfl,h 1 _ _ rfl rfl,h 2 _ _ rfl rfl⟩
theorem FU {α:Type}(x:Option α):x=none∨∃ g,x=some g:=by cases x with
 | none=>exact .inl rfl
 | some g=>exact .inr ⟨g,rfl⟩
def ZV (z:Nat) (x:PV):Prop:=x.cells.length=z∧x.cells.all PV.storable=true
theorem Xn {f:FuncId}{sT uT:TypeId}{ti:aD}{by':Nat}{objs:List Obj}{k ver:Nat}{ob:Obj}{x:PV}{k2 QA:Nat}{U5:Obj}{i:Nat}{tmps:List PV}(W:adh P f sT uT ob.ty ob.sz by') (hu:P.underlying sT=some (.slice ob.ty)) (hu2:P.underlying uT=some (.slice ob.ty)) (hD:iN P ob.ty ti) (hk:ti.kind≠.none)
  (hzl:(aI ti).cells.length=ti.size) (hzs:(aI ti).cells.all PV.storable=true) (hsz:ti.size=ob.sz) (hby:ti.bytes=by')
  (R:Rel base ak w0 ⟨tmps,objs⟩ blk a w) (h1:objs[k]?=some ob) (h2:ob.live=true) (h3:ob.ver=ver)
  (g1:objs[k2]?=some U5) (g2:U5.live=true) (g3:U5.ver=QA) (g4:U5.sz=ob.sz) (g5:U5.xs=[x]) (hkk:k2≠k)
  (hall:∀ y ∈ ob.xs,ZV ob.sz y) (hx:ZV ob.sz x) (hi:i≤ob.xs.length) (hb:(ob.xs.length+1)*by'≤140737488355328) (hbm:ob.xs.length+1≤1000000000){v0 v2:Value}
  (r0:aX w (bR base objs blk) objs blk (.bG k ver) v0) (r2:aX w (bR base objs blk) objs blk (.bG k2 QA) v2) :
  Calls P f #[v0,.int .i64 i,v2] w fun e w'=>∃ v' gb,e=.returned v'∧Qz ob.ty ob.sz (bD w (bR base objs blk) objs blk) (blk k) w (ob.xs.take i++[x]++ob.xs.drop i) v' w' gb:=by
 have hty:=r0.uJ h1 h2 h3
 have afA:=r2.uJ g1 g2 g3
 have hh:=r0.bG h1 h2 h3
 have hone:∀ y,ZV ob.sz y→∀ p ∈ y.cells,∀ v,bD w (bR base objs blk) objs blk p v→v.oneCell'=true:=fun y hy p hp v hv=>(mG hv (List.all_eq_true.1 hy.2 p hp)).1
 obtain ⟨vb,vc,Iq,rfl,hgv,hbk2,hvs,hvc,hcs⟩:∃ vb vc Iq,v2=.slice (some ⟨vb,0,none⟩) 1 vc∧w.heap[vb]?=some (.cells Iq U5.ty (0,0))∧blk k2=some vb∧Iq.size=vc*ob.sz∧1≤vc∧bC (bD w (bR base objs blk) objs blk) ob.sz Iq [x]:=by
  have hr:=r2.bG g1 g2 g3
  unfold yJ at hr
  rcases FU (blk k2) with hbk | ⟨g,hbk⟩
  · rw [hbk] at hr;rw [g5] at hr;exact absurd hr.2 (by simp)
  · rw [hbk] at hr
    obtain ⟨cap,c,rfl,x1,x2,x3,x4⟩:=hr
    obtain ⟨c',y1,y2,y3⟩:=lW R g1 g2 hbk afA
    rw [x1] at y1;cases y1
    rw [g4] at x4 y3
    rw [g5] at y3 x2 ⊢
    exact ⟨g,cap,c,rfl,x1,hbk,x4,x2,y3⟩
 have afB:vb<w.heap.size:=(Array.getElem?_eq_some_iff.1 hgv).1
 obtain ⟨ss,hss⟩:∃ ss,ss=Iq.toList.take ob.sz:=⟨_,rfl⟩
 have Xo:ss.length=ob.sz:=by
  rw [hss,List.length_take,Array.length_toList,hvs]
  have:=mul_le_mul_right ob.sz hvc
  rw [one_mul] at this
  omega
 have hcell:∀ j v,ss[j]?=some v→w.cell? ⟨vb,0+j,none⟩=some v:=fun j v hj=>by
  rw [hss,List.getElem?_take] at hj
  split at hj
  · simp only [World.cell?,hgv,Nat.zero_add]
    simpa using hj
  · cases hj
 have hcx:bC (bD w (bR base objs blk) objs blk) ob.sz ⟨ss⟩ [x]:=by
  have:=bC.take hcs
  rw [show [x].length*ob.sz=ob.sz from one_mul _,← hss] at this
  exact this
 have hso:∀ v ∈ ss,v.oneCell'=true:=cells_one hcx (by rw [Xo];exact (one_mul _).symm) (fun y hy=>hone y (by rw [List.mem_singleton.1 hy];exact hx))
 by_cases hin:i=ob.xs.length
 · subst hin
   have hfin:ob.xs.take ob.xs.length++[x]++ob.xs.drop ob.xs.length=ob.xs++[x]:=by simp
   rw [hfin]
   obtain ⟨v',w',gb,q1,q2,q3,q4,q5⟩:=wF (ty:=sT) (R:=bD w (bR base objs blk) objs blk) (gOld:=blk k) (v:=v0) (x:=.slice (some ⟨vb,0,none⟩) 1 vc) (xs:=ob.xs) (ys:=[x]) (news:=ss) hu hD hk hzl hzs (by
    unfold yJ at hh
    rcases FU (blk k) with hbk | ⟨g,hbk⟩
    · rw [hbk] at hh ⊢;exact hh
    · rw [hbk] at hh ⊢
      obtain ⟨cap,c,hv,x1,x2,x3,x4⟩:=hh
      obtain ⟨c',y1,y2,y3⟩:=lW R h1 h2 hbk hty
      rw [x1] at y1;cases y1
      exact ⟨cap,c,hv,x1,x2,x3,by rw [hsz];exact x4,by rw [hsz];exact y3⟩) (by rw [hsz];exact Src.ofSlice w hu2 ⟨vb,0,none⟩ 1 vc ss (by rw [Xo];exact (one_mul _).symm) (fun j u hj=>by rw [Addr.add_lit];exact hcell j u hj) hso) (by rw [hsz];exact hcx) (by rw [hby];exact hb) (by simp;omega)
   have hnn:ob.xs++[x]≠[]:=by simp
   have hL:∃ gb,Qz ob.ty ob.sz (bD w (bR base objs blk) objs blk) (blk k) w (ob.xs++[x]) v' w' gb:=by
    cases gb with
    | none=>exact absurd q5.2 hnn
    | some g=>exact ⟨g,q2.1,q2.2,q3,q4 g rfl,by rw [hsz] at q5;exact q5⟩
   obtain ⟨gb',hL⟩:=hL
   have fin:∀ base' n c,v0=.slice base' n c→n=ob.xs.length→(base'=none→n=0∧c=0)→n≤c→c≤9223372036854775807→
       Calls P f #[v0,.int .i64 ob.xs.length,.slice (some ⟨vb,0,none⟩) 1 vc] w fun e w'=>∃ v' gb,e=.returned v'∧Qz ob.ty ob.sz (bD w (bR base objs blk) objs blk) (blk k) w (ob.xs++[x]) v' w' gb:=by
    intro base' n c ev en hn hnc hc
    subst ev;subst en
    refine (W.fin base' _ c vb 0 vc w w' v' hn hnc hc fun ty'=>q1).mono fun e w1 ⟨e1,e2⟩=>?_
    subst e2
    exact ⟨v',gb',e1,hL⟩
   unfold yJ at hh
   rcases FU (blk k) with hbk | ⟨g,hbk⟩
   · rw [hbk] at hh;exact fin none 0 0 hh.1 (by rw [hh.2];rfl) (fun _=>⟨rfl,rfl⟩) (Nat.le_refl _) (by decide)
   · rw [hbk] at hh
     obtain ⟨cap,c,hv,x1,x2,x3,x4⟩:=hh
     exact fin _ _ _ hv rfl (fun h=>by cases h) x2 (by unfold maxLen at x3;omega)
 · have hlt:i<ob.xs.length:=by omega
   unfold yJ at hh
   rcases FU (blk k) with hbk | ⟨g,hbk⟩
   · rw [hbk] at hh;rw [hh.2] at hlt;simp at hlt
   · rw [hbk] at hh
     obtain ⟨cap,c,rfl,x1,x2,x3,x4⟩:=hh
     obtain ⟨c',y1,y2,y3⟩:=lW R h1 h2 hbk hty
     rw [x1] at y1;cases y1
     have hc63:cap≤9223372036854775807:=by unfold maxLen at x3;omega
     have hvg:vb≠g:=fun e=>R.objs.IK k2 k U5 ob vb hkk g1 g2 h1 h2 hbk2 (by rw [hbk,e])
     have m1:(i+1)*ob.sz≤ob.xs.length*ob.sz:=mul_le_mul_right _ hlt
     have m2:ob.xs.length*ob.sz≤cap*ob.sz:=mul_le_mul_right _ x2
     have e1:=succ_mul i ob.sz
     have e2:=succ_mul ob.xs.length ob.sz
     rw [e1] at m1
     have hml:(mid c i ob.xs.length ob.sz).length=ob.xs.length*ob.sz-i*ob.sz:=by
      unfold mid
      rw [List.length_drop,List.length_take,Array.length_toList,x4]
      omega
     have hoc:∀ v ∈ c.toList.take (ob.xs.length*ob.sz),v.oneCell'=true:=by
      refine cells_one (bC.take y3) ?_ (fun y hy=>hone y (hall y hy))
      rw [List.length_take,Array.length_toList,x4]
      omega
     have aeJ:∀ v ∈ mid c i ob.xs.length ob.sz,v.oneCell'=true:=fun v hv=>hoc v (List.mem_of_mem_drop hv)
     have hdg:∀ q,i*ob.sz≤q→q<ob.xs.length*ob.sz→(mid c i ob.xs.length ob.sz)[q-i*ob.sz]?=c[q]?:=fun q hq1 hq2=>by
      unfold mid
      rw [List.getElem?_drop,List.getElem?_take,show i*ob.sz+(q-i*ob.sz)=q by omega,if_pos hq2];simp
     have hyl:(ob.xs.take i++[x]++ob.xs.drop i).length=ob.xs.length+1:=by simp;omega
     have hmax:ob.xs.length+1≤maxLen:=by unfold maxLen;omega
     by_cases hroom:ob.xs.length+1≤cap
     · have m3:(ob.xs.length+1)*ob.sz≤cap*ob.sz:=mul_le_mul_right _ hroom
       rw [e2] at m3
       refine (W.shift g ob.xs.length cap i vb 0 vc c Iq U5.ty ss w hlt hroom hc63 x1 x4 hgv hvg Xo hcell hso aeJ).mono fun e w' ⟨he,hw⟩=>?_
       refine ⟨_,g,he,?_⟩
       rw [e1] at hw
       have hf1:i*ob.sz+ob.sz+(mid c i ob.xs.length ob.sz).length≤c.size:=by rw [hml,x4];omega
       generalize QB:spl c (i*ob.sz+ob.sz) (mid c i ob.xs.length ob.sz)=jb at hw
       have hs1:jb.size=c.size:=by rw [← QB];exact uj hf1
       have hg1:=fun q=>QB ▸ FT hf1 q
       have hf2:i*ob.sz+ss.length≤jb.size:=by rw [hs1,x4,Xo];omega
       generalize QC:spl jb (i*ob.sz) ss=cur2 at hw
       have hs2:cur2.size=jb.size:=by rw [← QC];exact uj hf2
       have hg2:=fun q=>QC ▸ FT hf2 q
       subst hw
       have hgd:w.drew.heap[g]?=some (.cells c ob.ty (0,0)):=x1
       have hh1:(w.drew.setRow g jb).heap[g]?=some (.cells jb ob.ty (0,0)):=setRow_heap w.drew g c jb ob.ty (0,0) hgd
       refine ⟨by rw [setRow_size,setRow_size];exact Nat.le_refl _,⟨rfl,rfl⟩,fun b y hb hy=>?_,.inl hbk,cap,cur2,by rw [hyl],setRow_heap _ g jb cur2 ob.ty (0,0) hh1,by rw [hyl];exact hroom,x3,by rw [hs2,hs1,x4],?_⟩
       · have hbg:b≠g:=fun e=>hb (by rw [hbk,e])
         rw [setRow_other _ g b _ hbg,setRow_other _ g b _ hbg];exact hy
       · refine bC.aeI y3 hcx hi (fun q hq=>?_) (fun q hq=>?_) (fun q hq1 hq2=>?_)
         · rw [hg2,if_pos hq,hg1,if_pos (by omega)]
         · rw [hg2,if_neg (by omega),if_pos (by omega),Nat.add_sub_cancel_left]
         · rw [hg2,if_neg (by omega),if_neg (by omega),hg1,if_neg (by omega),if_pos (by omega)]
           rw [← hdg q hq1 hq2];congr 1;omega
     · obtain ⟨row,hrs,hrg,hC⟩:=W.grow g ob.xs.length cap i vb 0 vc c ss w hlt x2 (by omega) hb x1 x4 afB Xo hcell hso aeJ
       refine hC.mono fun e w' ⟨he,hw⟩=>?_
       refine ⟨_,w.heap.size,he,?_⟩
       have hGn:=grownCap_ge w (ob.xs.length+1) cap ob.ty
       have hGm:=grownCap_le_maxLen w (ob.xs.length+1) cap ob.ty hmax
       generalize grownCap w (ob.xs.length+1) cap ob.ty=G at hrs hGn hGm ⊢
       have m3:(ob.xs.length+1)*ob.sz≤G*ob.sz:=mul_le_mul_right _ hGn
       rw [e2] at m3
       rw [e1] at hw
       have hf1:i*ob.sz+ss.length≤row.size:=by rw [hrs,Xo];omega
       generalize QB:spl row (i*ob.sz) ss=jb at hw
       have hs1:jb.size=row.size:=by rw [← QB];exact uj hf1
       have hg1:=fun q=>QB ▸ FT hf1 q
       have hf2:i*ob.sz+ob.sz+(mid c i ob.xs.length ob.sz).length≤jb.size:=by rw [hml,hs1,hrs];omega
       generalize QC:spl jb (i*ob.sz+ob.sz) (mid c i ob.xs.length ob.sz)=cur2 at hw
       have hs2:cur2.size=jb.size:=by rw [← QC];exact uj hf2
       have hg2:=fun q=>QC ▸ FT hf2 q
       subst hw
       have hN:(w.drew.alloc (.cells row ob.ty)).heap[w.heap.size]?=some (.cells row ob.ty (0,0)):=heap_alloc_new w.drew _
       have hN1:(((w.drew.alloc (.cells row ob.ty)).setRow w.heap.size jb).drew).heap[w.heap.size]?=some (.cells jb ob.ty (0,0)):=setRow_heap _ w.heap.size row jb ob.ty (0,0) hN
       have hgr:kN w (w.drew.alloc (.cells row ob.ty)):=.push rfl
       refine ⟨by rw [setRow_size];show w.heap.size≤((w.drew.alloc (.cells row ob.ty)).setRow w.heap.size jb).heap.size;rw [setRow_size];exact hgr.1,hgr.2.2,fun b y hb hy=>?_,.inr (Nat.le_refl _),G,cur2,by rw [hyl],setRow_heap _ w.heap.size jb cur2 ob.ty (0,0) hN1,by rw [hyl];exact hGn,hGm,by rw [hs2,hs1,hrs],?_⟩
       · have hbs:b≠w.heap.size:=by have:=(Array.getElem?_eq_some_iff.1 hy).1;omega
         rw [setRow_other _ w.heap.size b _ hbs]
         show ((w.drew.alloc (.cells row ob.ty)).setRow w.heap.size jb).heap[b]?=some y
         rw [setRow_other _ w.heap.size b _ hbs]
         exact hgr.2.1 b y hy
       · refine bC.aeI y3 hcx hi (fun q hq=>?_) (fun q hq=>?_) (fun q hq1 hq2=>?_)
         · rw [hg2,if_pos (by omega),hg1,if_pos hq,hrg q hq]
         · rw [hg2,if_pos (by omega),hg1,if_neg (by omega),if_pos (by omega),Nat.add_sub_cancel_left]
         · rw [hg2,if_neg (by omega),if_pos (by omega),← hdg q hq1 hq2]
           congr 1;omega
theorem ZW {f:FuncId}{sT uT:TypeId}{ti:aD}{by':Nat}{objs:List Obj}{k ver:Nat}{ob:Obj}{x:PV}{k2 QA:Nat}{U5:Obj}{i:Nat}(W:adh P f sT uT ob.ty ob.sz by') (hu:P.underlying sT=some (.slice ob.ty)) (hu2:P.underlying uT=some (.slice ob.ty)) (hD:iN P ob.ty ti) (hk:ti.kind≠.none)
  (hzl:(aI ti).cells.length=ti.size) (hzs:(aI ti).cells.all PV.storable=true) (hsz:ti.size=ob.sz) (hby:ti.bytes=by')
  (h1:objs[k]?=some ob) (h2:ob.live=true) (h3:ob.ver=ver)
  (g1:objs[k2]?=some U5) (g2:U5.live=true) (g3:U5.ver=QA) (g4:U5.sz=ob.sz) (g5:U5.xs=[x]) (hkk:k2≠k)
  (hall:∀ y ∈ ob.xs,ZV ob.sz y) (hx:ZV ob.sz x) (hi:i≤ob.xs.length) (hb:(ob.xs.length+1)*by'≤140737488355328) (hbm:ob.xs.length+1≤1000000000) :
  Uq P f [.bG k ver,.int .i64 i,.bG k2 QA] objs (.bG k (ver+1)) (objs.set k { ob with xs:=ob.xs.take i++[x]++ob.xs.drop i,ver:=ver+1 }):=by
 refine ⟨W.ent,by simp,fun base ak w0 tmps blk a w vs R hargs=>?_⟩
 obtain ⟨v0,v1,v2,rfl,r0,r1,r2⟩:=adi hargs
 have e1:=r1.int
 subst e1
 refine (Xn W hu hu2 hD hk hzl hzs hsz hby R h1 h2 h3 g1 g2 g3 g4 g5 hkk hall hx hi hb hbm r0 r2).mono fun e w' ⟨v',gb,he,L⟩=>?_
 obtain ⟨e3,e4⟩:=L.rel R h1 h2 h3 (r0.uJ h1 h2 h3)
 exact ⟨v',_,he,e3,e4⟩
end
end Lp
namespace Lp
open Go Go.Proofs Go.Lib Go.RowKit
theorem Xp:Tryz.prog.underlying 23=some (.slice 51):=by kernel_rfl
theorem aci:Tryz.prog.underlying 22=some (.slice 51):=by kernel_rfl
theorem aeK:∃ inf,Tryz.prog.info? 51=some inf∧inf.zero=some (Value.agg ⟨[.int .i64 0,.int .i64 0,.string ⟨⟨[]⟩⟩,.string ⟨⟨[]⟩⟩,.int .i64 0,.int .i64 0,.int .i64 0,.string ⟨⟨[]⟩⟩,.string ⟨⟨[]⟩⟩,.bool false,.int .i64 0]⟩)∧inf.size=11∧inf.bytes=120:=⟨_,rfl,rfl,rfl,rfl⟩
theorem adj (g n c i vb voff vc:Nat) (cur Iq:Array Value) (tv:TypeId) (ss:List Value) (w:World) (hi:i<n) (hroom:n+1≤c) (hc63:c≤9223372036854775807)
  (hg:w.heap[g]?=some (.cells cur 51 (0,0))) (hcur:cur.size=c*11) (hgv:w.heap[vb]?=some (.cells Iq tv (0,0))) (hvb:vb≠g) (hsl:ss.length=11)
  (hx:∀ j v,ss[j]?=some v→w.cell? ⟨vb,voff+j,none⟩=some v) (os:∀ v ∈ ss,v.oneCell'=true) (oc:∀ v ∈ mid cur i n 11,v.oneCell'=true) :
  Calls Tryz.prog 29 #[.slice (some ⟨g,0,none⟩) n c,.int .i64 i,.slice (some ⟨vb,voff,none⟩) 1 vc] w fun e w'=>
   e=.returned (.slice (some ⟨g,0,none⟩) (n+1) c)∧w'=(w.drew.setRow g (spl cur ((i+1)*11) (mid cur i n 11))).setRow g (spl (spl cur ((i+1)*11) (mid cur i n 11)) (i*11) ss):=by
 have mixed:Tryz.prog.follows .mixedOrders=true:=by kernel_rfl
 have hml:(mid cur i n 11).length=(n-i)*11:=by simp [mid,hcur];omega
 have hz2:¬ ((i:Int)=(n:Int)):=by omega
 have hov:∀ off lb cb,(callFunc 64 #[.slice (some ⟨vb,voff,none⟩) 1 vc,.slice (some ⟨g,off,none⟩) lb cb]).run Tryz.prog w=.ok (.value (.bool false)) w:=fun off lb cb=>by
  rw [run_callFunc_extern Tryz.func64 (by kernel_rfl) (by kernel_rfl) (by kernel_rfl) (e:=Extern.SlicesOverlaps.overlaps #[22,22] #[4]) (by kernel_rfl),
   Lib.run_overlaps_apart w 22 4 51 aci 11 Tryz.sizeOf51 ⟨vb,voff,none⟩ ⟨g,off,none⟩ 1 vc lb cb hvb tv 51 Iq.size cur.size (by simp [World.shape?,hgv]) (by simp [World.shape?,hg]) (by omega) (EJ hgv _) (EJ hgv _)]
  rfl
 obtain ⟨inf,hi0,hz0,hzs,hzb⟩:=aeK
 have hg':w.drew.heap[g]?=some (.cells cur 51 (0,0)):=hg
 have hcp1:∀ ty dc sc,(Builtin.copy_ #[23,23] ty #[.slice (some ⟨g,(i+1)*11,none⟩) (n-i) dc,.slice (some ⟨g,i*11,none⟩) (n+1-i) sc]).run Tryz.prog w.drew=.ok (goInt (n-i:Nat)) (w.drew.setRow g (spl cur ((i+1)*11) (mid cur i n 11))):=fun ty dc sc=>by
  refine og w.drew 23 23 ty 51 inf g ((i+1)*11) (n-i) dc ⟨g,i*11,none⟩ (n+1-i) sc (n-i) cur 51 _ Xp hi0 hg' (by simp only [Nat.min_def];split <;> omega) (by rw [hzs];omega) (fun j v hj=>?_) (by omega) oc
  rw [Addr.add_lit]
  simp only [World.cell?,hg']
  unfold mid at hj
  rw [List.getElem?_drop,List.getElem?_take] at hj
  split at hj
  · simpa using hj
  · cases hj
 have ZX:(spl cur ((i+1)*11) (mid cur i n 11)).size=c*11:=by rw [uj (by omega)];omega
 generalize spl cur ((i+1)*11) (mid cur i n 11)=jb at hcp1 ZX ⊢
 have hg1:(w.drew.setRow g jb).heap[g]?=some (.cells jb 51 (0,0)):=setRow_heap w.drew g cur jb 51 (0,0) hg'
 have hcp2:∀ ty dc,(Builtin.copy_ #[23,22] ty #[.slice (some ⟨g,i*11,none⟩) (n+1-i) dc,.slice (some ⟨vb,voff,none⟩) 1 vc]).run Tryz.prog (w.drew.setRow g jb)=.ok (goInt (1:Nat)) ((w.drew.setRow g jb).setRow g (spl jb (i*11) ss)):=fun ty dc=>by
  refine og _ 23 22 ty 51 inf g (i*11) (n+1-i) dc ⟨vb,voff,none⟩ 1 vc 1 jb 51 ss Xp hi0 hg1 (by simp only [Nat.min_def];split <;> omega) (by rw [hzs];omega) (fun j v hj=>?_) (by omega) os
  rw [Addr.add_lit]
  have e:(w.drew.setRow g jb).heap[vb]?=w.heap[vb]?:=setRow_other w.drew g vb jb hvb
  have:(w.drew.setRow g jb).cell? ⟨vb,voff+j,none⟩=w.cell? ⟨vb,voff+j,none⟩:=by simp only [World.cell?,e]
  rw [this]
  exact hx j v hj
 generalize spl jb (i*11) ss=cur2 at hcp2 ⊢
 have hw1:IntKind.i64.wrap ((i:Int)+1)=(i:Int)+1:=by rw [IntKind.wrap_i64];omega
 have hb1:(0:Int)≤(i:Int)+1:=by omega
 have hin:i≤n:=by omega
 have htn:((i:Int)+1).toNat=i+1:=by omega
 have hb2:¬ (c=i+1):=by omega
 have hb3:(i:Int)≤(n:Int)+1:=by omega
 have hb4:¬ (c=i):=by omega
 have hb5:n+1-(i+1)=n-i:=by omega
 clear hml ZX hsl
 go_enter Tryz.func29,Tryz.ntmps29
 go_wp2_with (simp only [hov])
 go_region_law_o (refine step_copy_runI rfl _ _ 23 23 rfl _ _ (by simp [Act.eval,Act.put]) (by simp [Act.eval,Act.put]) (hcp1 _ _ _) ?_)
 go_wp2_with (at_builtin;refine wpList_copy_runI _ rfl _ _ 23 22 rfl _ _ rfl rfl (hcp2 _ _) ?_)
 go_ret
 exact ⟨rfl,rfl⟩
theorem afC (base:Option Addr) (n c vb voff vc:Nat) (w w':World) (v':Value) (hnil:base=none→n=0∧c=0) (hnc:n≤c) (hc63:c≤9223372036854775807)
  (hrun:∀ ty,(Builtin.append_ #[23,22] ty #[.slice base n c,.slice (some ⟨vb,voff,none⟩) 1 vc]).run Tryz.prog w=.ok v' w') :
  Calls Tryz.prog 29 #[.slice base n c,.int .i64 n,.slice (some ⟨vb,voff,none⟩) 1 vc] w fun e w1=>e=.returned v'∧w1=w':=by
 have mixed:Tryz.prog.follows .mixedOrders=true:=by kernel_rfl
 cases base with
 | none=>
  obtain ⟨rfl,rfl⟩:=hnil rfl
  go_enter Tryz.func29,Tryz.ntmps29
  go_wp2_with (at_builtin;refine Lib.wpList_append_run _ rfl _ _ _ _ rfl _ _ rfl rfl _ _ (hrun _) ?_)
  go_ret
  exact ⟨rfl,rfl⟩
 | some a=>
  obtain ⟨ab,ao,asp⟩:=a
  clear hnil
  go_enter Tryz.func29,Tryz.ntmps29
  go_wp2_with (at_builtin;refine Lib.wpList_append_run _ rfl _ _ _ _ rfl _ _ rfl rfl _ _ (hrun _) ?_)
  all_goals (go_ret;exact ⟨rfl,rfl⟩)
theorem aeL (g n c i vb voff vc:Nat) (cur:Array Value) (ss:List Value) (w:World) (hi:i<n) (hnc:n≤c) (hroom:c<n+1) (hbig:(n+1)*120≤140737488355328)
  (hg:w.heap[g]?=some (.cells cur 51 (0,0))) (hcur:cur.size=c*11) (hvb:vb<w.heap.size) (hsl:ss.length=11)
  (hx:∀ j v,ss[j]?=some v→w.cell? ⟨vb,voff+j,none⟩=some v) (os:∀ v ∈ ss,v.oneCell'=true) (oc:∀ v ∈ mid cur i n 11,v.oneCell'=true) :
  ∃ row:Array Value,row.size=grownCap w (n+1) c 51*11∧(∀ q,q<i*11→row[q]?=cur[q]?)∧
   Calls Tryz.prog 29 #[.slice (some ⟨g,0,none⟩) n c,.int .i64 i,.slice (some ⟨vb,voff,none⟩) 1 vc] w fun e w'=>
    e=.returned (.slice (some ⟨w.heap.size,0,none⟩) (n+1) (grownCap w (n+1) c 51))∧
    w'=((((w.drew.alloc (.cells row 51)).setRow w.heap.size (spl row (i*11) ss)).drew).setRow w.heap.size (spl (spl row (i*11) ss) ((i+1)*11) (mid cur i n 11))):=by
 have mixed:Tryz.prog.follows .mixedOrders=true:=by kernel_rfl
 obtain ⟨inf,hi0,hz0,hzs,hzb⟩:=aeK
 have hgw:g<w.heap.size:=(Array.getElem?_eq_some_iff.1 hg).1
 have hz2:¬ ((i:Int)=(n:Int)):=by omega
 have hz3:(c:Int)<(n:Int)+1:=by omega
 have hik:i+(n+1-i)=n+1:=by omega
 have hkk:(n:Int)+1-(i:Int)=((n+1-i:Nat):Int):=by omega
 have hold:(Builtin.firstCells inf.size i (.slice (some ⟨g,0,none⟩) i c)).run Tryz.prog w.drew=.ok (cur.toList.take (i*11)).toArray w.drew:=by
  rw [hzs]
  refine run_firstCells_some w.drew 11 i ⟨g,0,none⟩ i c (cur.toList.take (i*11)) (by rw [List.length_take,Array.length_toList,hcur];omega) (fun j v hj=>?_)
  rw [List.getElem?_take] at hj
  split at hj
  · rw [add_lit]
    have:(w.drew.heap)[g]?=some (.cells cur 51 (0,0)):=hg
    simp only [World.cell?,this]
    simpa using hj
  · cases hj
 have hGn:n+1≤grownCap w (n+1) c 51:=grownCap_ge w _ _ _
 have hG63:grownCap w (n+1) c 51≤9223372036854775807:=by
  have:=grownCap_le_maxLen w (n+1) c 51 (by unfold maxLen;omega)
  unfold maxLen at this
  omega
 have hrz:∀ ty,(Builtin.append_ #[23,3] ty #[.slice (some ⟨g,0,none⟩) i c,.int .i64 ((n:Int)+1-(i:Int))]).run Tryz.prog w=
     .ok (.slice (some ⟨w.heap.size,0,none⟩) (n+1) (grownCap w (n+1) c 51)) (w.drew.alloc (.cells ((cur.toList.take (i*11)).toArray++Builtin.zeroCells (Value.agg ⟨[.int .i64 0,.int .i64 0,.string ⟨⟨[]⟩⟩,.string ⟨⟨[]⟩⟩,.int .i64 0,.int .i64 0,.int .i64 0,.string ⟨⟨[]⟩⟩,.string ⟨⟨[]⟩⟩,.bool false,.int .i64 0]⟩).cells (n+1-i)++Builtin.zeroCells (Value.agg ⟨[.int .i64 0,.int .i64 0,.string ⟨⟨[]⟩⟩,.string ⟨⟨[]⟩⟩,.int .i64 0,.int .i64 0,.int .i64 0,.string ⟨⟨[]⟩⟩,.string ⟨⟨[]⟩⟩,.bool false,.int .i64 0]⟩).cells (grownCap w (n+1) c 51-(n+1))) 51)):=fun ty=>by
  have h:=Lib.run_append_grow_zeros (P:=Tryz.prog) w 23 3 ty 51 inf _ .i64 .i64 Xp (by kernel_rfl) hi0 hz0 (some ⟨g,0,none⟩) i c (cur.toList.take (i*11)) hold (n+1-i) (by omega) (by omega) (by omega) (by omega) (by rw [hzb];omega) (by rw [hzb,hik];exact growslice_fits hroom hbig)
  rw [hik] at h
  rw [hkk]
  exact h
 generalize grownCap w (n+1) c 51=G at *
 have hrg:∀ q,q<i*11→((cur.toList.take (i*11)).toArray++Builtin.zeroCells (Value.agg ⟨[.int .i64 0,.int .i64 0,.string ⟨⟨[]⟩⟩,.string ⟨⟨[]⟩⟩,.int .i64 0,.int .i64 0,.int .i64 0,.string ⟨⟨[]⟩⟩,.string ⟨⟨[]⟩⟩,.bool false,.int .i64 0]⟩).cells (n+1-i)++Builtin.zeroCells (Value.agg ⟨[.int .i64 0,.int .i64 0,.string ⟨⟨[]⟩⟩,.string ⟨⟨[]⟩⟩,.int .i64 0,.int .i64 0,.int .i64 0,.string ⟨⟨[]⟩⟩,.string ⟨⟨[]⟩⟩,.bool false,.int .i64 0]⟩).cells (G-(n+1)))[q]?=cur[q]?:=fun q hq=>by
  rw [Array.getElem?_append_left (by simp [Builtin.zeroCells,Value.cells,hcur];omega),Array.getElem?_append_left (by simp [hcur];omega)]
  rw [List.getElem?_toArray,List.getElem?_take,if_pos hq];simp
 have hrs:((cur.toList.take (i*11)).toArray++Builtin.zeroCells (Value.agg ⟨[.int .i64 0,.int .i64 0,.string ⟨⟨[]⟩⟩,.string ⟨⟨[]⟩⟩,.int .i64 0,.int .i64 0,.int .i64 0,.string ⟨⟨[]⟩⟩,.string ⟨⟨[]⟩⟩,.bool false,.int .i64 0]⟩).cells (n+1-i)++Builtin.zeroCells (Value.agg ⟨[.int .i64 0,.int .i64 0,.string ⟨⟨[]⟩⟩,.string ⟨⟨[]⟩⟩,.int .i64 0,.int .i64 0,.int .i64 0,.string ⟨⟨[]⟩⟩,.string ⟨⟨[]⟩⟩,.bool false,.int .i64 0]⟩).cells (G-(n+1))).size=G*11:=by
  simp [Builtin.zeroCells,Value.cells,hcur]
  omega
 generalize (cur.toList.take (i*11)).toArray++Builtin.zeroCells (Value.agg ⟨[.int .i64 0,.int .i64 0,.string ⟨⟨[]⟩⟩,.string ⟨⟨[]⟩⟩,.int .i64 0,.int .i64 0,.int .i64 0,.string ⟨⟨[]⟩⟩,.string ⟨⟨[]⟩⟩,.bool false,.int .i64 0]⟩).cells (n+1-i)++Builtin.zeroCells (Value.agg ⟨[.int .i64 0,.int .i64 0,.string ⟨⟨[]⟩⟩,.string ⟨⟨[]⟩⟩,.int .i64 0,.int .i64 0,.int .i64 0,.string ⟨⟨[]⟩⟩,.string ⟨⟨[]⟩⟩,.bool false,.int .i64 0]⟩).cells (G-(n+1))=row at hrz hrg hrs
 refine ⟨row,hrs,hrg,?_⟩
 have hml:(mid cur i n 11).length=(n-i)*11:=by simp [mid,hcur];omega
 obtain ⟨W1,hW1⟩:∃ W1,W1=w.drew.alloc (.cells row 51):=⟨_,rfl⟩
 have hN:W1.heap[w.heap.size]?=some (.cells row 51 (0,0)):=by rw [hW1];exact heap_alloc_new w.drew _
 have hO:∀ b,b<w.heap.size→W1.heap[b]?=w.heap[b]?:=fun b hb=>by
  rw [hW1]
  show (w.drew.heap.push _)[b]?=_
  rw [Array.getElem?_push,if_neg (show ¬ b=w.drew.heap.size from by show ¬ b=w.heap.size;omega)]
  rfl
 rw [← hW1] at hrz ⊢
 have hcpA:∀ ty dc,(Builtin.copy_ #[23,22] ty #[.slice (some ⟨w.heap.size,i*11,none⟩) (n+1-i) dc,.slice (some ⟨vb,voff,none⟩) 1 vc]).run Tryz.prog W1=.ok (goInt (1:Nat)) (W1.setRow w.heap.size (spl row (i*11) ss)):=fun ty dc=>by
  refine og _ 23 22 ty 51 inf w.heap.size (i*11) (n+1-i) dc ⟨vb,voff,none⟩ 1 vc 1 row 51 ss Xp hi0 hN (by simp only [Nat.min_def];split <;> omega) (by rw [hzs];omega) (fun j v hj=>?_) (by omega) os
  rw [Addr.add_lit]
  have:W1.cell? ⟨vb,voff+j,none⟩=w.cell? ⟨vb,voff+j,none⟩:=by simp only [World.cell?,hO vb hvb]
  rw [this]
  exact hx j v hj
 have ZX:(spl row (i*11) ss).size=G*11:=by rw [uj (by omega)];omega
 generalize spl row (i*11) ss=jb at hcpA ZX ⊢
 have hN1:((W1.setRow w.heap.size jb).drew).heap[w.heap.size]?=some (.cells jb 51 (0,0)):=setRow_heap W1 w.heap.size row jb 51 (0,0) hN
 have hcpB:∀ ty dc sc,(Builtin.copy_ #[23,23] ty #[.slice (some ⟨w.heap.size,(i+1)*11,none⟩) (n-i) dc,.slice (some ⟨g,i*11,none⟩) (n-i) sc]).run Tryz.prog ((W1.setRow w.heap.size jb).drew)=.ok (goInt (n-i:Nat)) (((W1.setRow w.heap.size jb).drew).setRow w.heap.size (spl jb ((i+1)*11) (mid cur i n 11))):=fun ty dc sc=>by
  refine og _ 23 23 ty 51 inf w.heap.size ((i+1)*11) (n-i) dc ⟨g,i*11,none⟩ (n-i) sc (n-i) jb 51 _ Xp hi0 hN1 (by simp) (by rw [hzs];omega) (fun j v hj=>?_) (by omega) oc
  rw [Addr.add_lit]
  have e:((W1.setRow w.heap.size jb).drew).heap[g]?=some (.cells cur 51 (0,0)):=by
   have:((W1.setRow w.heap.size jb).drew).heap[g]?=W1.heap[g]?:=setRow_other W1 w.heap.size g jb (by omega)
   rw [this,hO g hgw];exact hg
  simp only [World.cell?,e]
  unfold mid at hj
  rw [List.getElem?_drop,List.getElem?_take] at hj
  split at hj
  · simpa using hj
  · cases hj
 generalize spl jb ((i+1)*11) (mid cur i n 11)=cur2 at hcpB ⊢
 have hGi:¬ (G=i):=by omega
 have hGim:¬ (G=i+1):=by omega
 have hci:¬ (c=i):=by omega
 have hw1:IntKind.i64.wrap ((i:Int)+1)=(i:Int)+1:=by rw [IntKind.wrap_i64];omega
 have hw2:IntKind.i64.wrap ((n:Int)+1)=(n:Int)+1:=by rw [IntKind.wrap_i64];omega
 have hw3:IntKind.i64.wrap ((n:Int)+1-(i:Int))=(n:Int)+1-(i:Int):=by rw [IntKind.wrap_i64];omega
 have hb1:(0:Int)≤(i:Int)+1:=by omega
 have hin:i≤n:=by omega
 have htn:((i:Int)+1).toNat=i+1:=by omega
 have hb3:(i:Int)≤(n:Int):=by omega
 have hb5:n+1-(i+1)=n-i:=by omega
 clear hkk hik hold hrs hrg hml ZX hW1 hN hN1 hO hsl
 go_enter Tryz.func29,Tryz.ntmps29
 go_wp2_with (first
  | (at_builtin;refine Lib.wpList_append_run _ rfl _ _ _ _ rfl _ _ rfl rfl _ _ (hrz _) ?_)
  | (at_builtin;refine wpList_copy_runI _ rfl _ _ 23 22 rfl _ _ rfl rfl (hcpA _ _) ?_))
 go_region_law_o (refine step_copy_runI rfl _ _ 23 23 rfl _ _ (by simp [Act.eval,Act.put]) (by simp [Act.eval,Act.put]) (hcpB _ _ _) ?_)
 go_wp2
 go_ret
 exact ⟨rfl,rfl⟩
theorem aeM:adh Tryz.prog 29 23 22 51 11 120:=⟨⟨_,Tryz.func29,by kernel_rfl,by kernel_rfl⟩,adj,afC,aeL⟩
end Lp
namespace Lp
open Go Go.Proofs
theorem Ir (d n:Nat) (O:List Obj) (t:TypeId) (sz:Nat) (x:dY) (ver:Nat):fE d n O ⟨t,sz,[aL x],true,ver⟩=⟨t,sz,[aL x],true,ver⟩:=aa2 d n O t sz [x] ver
theorem ZY:∀ d X v,eY d 2 X (.bG 1 v)=.bG 1 v:=fun _ _ _=>rfl
theorem abg (o:Obj) (x:dY) (q:aC) (ver:Nat) (t:TypeId) (rest:List Obj):eY 1 0 (o::⟨t,11,aL x::q.map aL,true,ver⟩::rest) (.bG 1 ver)=aA (x::q):=by
 have e:(aL x::q.map aL).map (PV.bJ (iY 0 0 (o::⟨t,11,aL x::q.map aL,true,ver⟩::rest)))=aL x::q.map aL:=Ik _ (fun _=>rfl) (x::q)
 simp only [eY,Nat.not_lt_zero,if_false,iY,List.getElem?_cons_succ,List.getElem?_cons_zero,Nat.zero_le,decide_true,Bool.true_and,beq_self_eq_true,if_true,e]
 rfl
end Lp
namespace Lp
open Go Go.Proofs
def FV:dF:=fun args objs K=>match args with
 | [.bG k ver,.int .i64 i,.bG k2 QA]=>∃ o,objs[k]?=some o∧o.live=true∧o.ver=ver∧o.sz=11∧o.ty=51∧ofR aL o.xs (HK.mk:HK fun l=>∃ o2,objs[k2]?=some o2∧o2.live=true∧o2.ver=QA∧o2.sz=11∧¬ k2=k∧ofR aL o2.xs (HK.mk:HK fun fs=>∃ f,fs=[f]∧
     0≤i∧i.toNat≤l.length∧l.length≤1000000∧K (.bG k (ver+1)) (objs.set k ⟨51,11,(l.take i.toNat++[f]++l.drop i.toNat).map aL,true,ver+1⟩) 2))
 | _=>False
theorem T9:aB Tryz.prog 29 FV:=by
 intro args objs K h
 unfold FV at h
 split at h
 · rename_i k ver i k2 QA
   obtain ⟨o,h1,h2,h3,h4,h5,l,h6,o2,g1,g2,g3,g4,hkk,fs,g5,f,rfl,h7,h8,h9,h10⟩:=h
   obtain ⟨n,rfl⟩:∃ n:Nat,i=n:=⟨i.toNat,by omega⟩
   rw [Int.toNat_natCast] at h8 h10
   obtain ⟨ty,sz,xs,live,vr⟩:=o
   simp only [] at h2 h3 h4 h5 h6
   subst h2;subst h3;subst h4;subst h5;subst h6
   have hu:=ZW (x:=aL f) (i:=n) (ti:=D 51) (by':=120) aeM Xp aci (hD _) (by intro h;cases h) rfl rfl rfl rfl h1 rfl rfl g1 g2 g3 g4 g5 hkk (fun y hy=>by obtain ⟨s,_,rfl⟩:=List.mem_map.1 hy;exact ⟨rfl,rfl⟩) ⟨rfl,rfl⟩ (by simpa using h8) (by rw [List.length_map];omega) (by rw [List.length_map];omega)
   refine ⟨_,_,_,.used _ _ hu,?_⟩
   have e:(l.map aL).take n++[aL f]++(l.map aL).drop n=(l.take n++[f]++l.drop n).map aL:=by simp
   rw [e]
   exact h10
 · exact h.elim
theorem afD:(∀ (K:aC→Prop) (a:dY),ofR aL [aL a] (HK.mk:HK K)=K [a])∧(∀ (K:aC→Prop) (l:aC),ofR aL (l.map aL) (HK.mk:HK K)=K l)∧(∀ (K:aC→Prop) (l:aC) (i:Nat) (y:dY),ofR aL ((l.map aL).set i (aL y)) (HK.mk:HK K)=K (l.set i y)):=
 ⟨fun K a=>Sk oJ K [a],fun K l=>Sk oJ K l,fun K l i y=>by rw [← List.map_set];exact Sk oJ K _⟩
theorem aeN (t:aC):(wh t).live=true∧(wh t).ver=0∧(wh t).sz=11∧(wh t).ty=51∧(wh t).xs=t.map aL:=⟨rfl,rfl,rfl,rfl,rfl⟩
theorem Z0 {t:aC}{i:Nat}{x:dY}(a:fQ) (hx:t[i]?=some x) (hml:i+1+x.many.toNat≤t.length) :
  (t.set i { x with many:=x.many+1 }).take (i+1+x.many.toNat)++[iE a]++(t.set i { x with many:=x.many+1 }).drop (i+1+x.many.toNat)=Xl t i a:=by
 have hil:=(List.getElem?_eq_some_iff.1 hx).1
 have e:∀ y,t.set i y=t.take i++y::t.drop (i+1):=fun y=>by rw [List.set_eq_take_append_cons_drop,if_pos hil]
 have l1:(t.take i).length=i:=by rw [List.length_take];omega
 have dn:(t.take i).drop (i+1+x.many.toNat)=[]:=List.drop_eq_nil_of_le (by omega)
 have dt:(t.take i).take (i+1+x.many.toNat)=t.take i:=List.take_of_length_le (by omega)
 unfold Xl
 rw [hx]
 simp only
 rw [e,List.take_append,List.drop_append,l1,dn,dt,show i+1+x.many.toNat-i=x.many.toNat+1 by omega,List.take_succ_cons,List.drop_succ_cons,List.drop_drop]
 simp
def Iu (t:aC) (p:List Stp) (a:fQ):PV:=match jc p t with
 | some i=>.b_ [aA (Xl t i a),.int .i64 0]
 | none=>.b_ [.sl 0 [] (some true),.int .i64 6]
def Z4 (t:aC) (p:List Stp):Prop:=∀ i x,jc p t=some i→t[i]?=some x→0≤x.many∧i+1+x.many.toNat≤t.length
def QD (t:aC) (p:List Stp) (a:fQ):aC×Int:=match jc p t with
 | some i=>(Xl t i a,0)
 | none=>([],6)
theorem QE (t:aC) (p:List Stp) (a:fQ):nE (Iu t p a) (.b_ [aA (QD t p a).1,.int .i64 (QD t p a).2]):=by
 unfold Iu QD
 split
 · exact .refl _
 · exact acU (.inr rfl) (tq 0 11) (.refl _)
end Lp
namespace Lp
open Go Go.Proofs
theorem QF (t:aC) (p:List Stp) (a:fQ) (hl:t.length≤100000) (ho:Y.One t) (hp:p.length≤1000000) (hm:Z4 t p) :
  ai Tryz.prog 11 [aA t,gL p,bX a] [] (Iu t p a) []:=by
 refine JI.Dt (T:=aR Tryz.prog [(27,xG),(28,jw),(29,FV)]) 1 hD (aj (af Qy (af vF (af T9 ah)))) a_ (by decide) (by decide) fun Q hQ=>?_
 cases hlf:jc p t with
 | none=>
  have hr:oO t p=.b_ [.int .i64 0,.bool false]:=by simp [oO,hlf]
  have hres:Iu t p a=.b_ [.sl 0 [] (some true),.int .i64 6]:=by simp [Iu,hlf]
  (conv=>arg 4;cbv);simp(maxSteps:=400000)only[↓av,ax,BEq.rfl,reduceIte,reduceCtorEq,Nat.reduceLT,Nat.reduceAdd,Nat.reduceSub,Nat.reduceMul,Nat.reduceBEq,Nat.reduceLeDiff,Int.reduceToNat,Int.reduceLE,hQ,↓xG,hr,hres,bA]
  exact ⟨by omega,ho,hp⟩
 | some i=>
  have hr:oO t p=.b_ [.int .i64 i,.bool true]:=by simp [oO,hlf]
  have hres:Iu t p a=.b_ [aA (Xl t i a),.int .i64 0]:=by simp [Iu,hlf]
  obtain ⟨x,hx,hk,_⟩:=Qu hlf
  obtain ⟨hm0,hml⟩:=hm i x hlf hx
  have zi:(0≤(i:Int))=True:=eq_true (by omega)
  have hit:=(List.getElem?_eq_some_iff.1 hx).1
  have hlt:((i:Int)<(t.length:Int))=True:=eq_true (by omega)
  have hsg:∀ y,((t.map aL).set i y)[i]?=some y:=fun y=>List.getElem?_set_self (by rw [List.length_map];omega)
  have hmg:(t.map aL)[i]?=some (aL x):=by rw [List.getElem?_map,hx];rfl
  (conv=>arg 4;cbv);simp(maxSteps:=400000)only[↓av,ax,BEq.rfl,reduceIte,reduceCtorEq,Nat.reduceLT,Nat.reduceAdd,Nat.reduceSub,Nat.reduceMul,Nat.reduceBEq,Nat.reduceLeDiff,Int.reduceToNat,Int.reduceLE,hQ,↓xG,hr,hres,zi,hlt,hsg,hmg,List.length_map,List.length_set,↓jw,aeN,qR,gM,gV,r_,bY,dO,Zw,↓FV,afD,bA,Int.toNat_natCast]
  have e1:((i:Int)+(x.many+1)).toNat=i+1+x.many.toNat:=by omega
  rw [e1]
  exact ⟨by omega,ho,hp,by omega,⟨by omega,by omega⟩,⟨by omega,by omega⟩,by decide,iE a,rfl,by omega,by omega,by omega,by decide,by rw [Z0 a hx hml]⟩
end Lp
namespace Lp
open Go Go.Proofs
def Fe (v:List fQ):Obj:=⟨29,7,v.map bX,true,0⟩
theorem xH (v:List fQ):eX [Fe v]:=by
 intro o ho x hx p hp
 simp only [List.mem_singleton] at ho
 subst ho
 simp only [Fe,List.mem_map] at hx
 obtain ⟨n,_,rfl⟩:=hx
 simp only [bX,PV.cells,List.mem_cons,List.not_mem_nil,or_false] at hp
 rcases hp with rfl | rfl | rfl | rfl | rfl | rfl | rfl <;> rfl
theorem Z5 (d n:Nat) (objs:List Obj) (v:List fQ):(v.map bX).map (PV.bJ (eY d n objs))=v.map bX:=by
 rw [List.map_map]
 exact List.map_congr_left fun x _=>rfl
theorem T_:ai Tryz.prog 88 [.sl 7 [] (some true)] [] (.bG 0 0) [Fe []]:=by
 refine gX.made (T:=aR Tryz.prog []) 0 hD (aj ah) a_ ?_
 (conv=>arg 4;cbv);simp only [↓zO,El,↓Ba,↓yN,↓Bb,yO,↓mM,Em,Dk,Nat.reduceAdd,Nat.reduceSub,rq,Q9,bM,FD,FE,wS,dU,forall_const,reduceCtorEq,false_imp_iff,and_true,TK.slice.injEq,exists_eq',true_and]
 exact ⟨_,0,0,_,Weak.Eh 2 29 7 rfl,rfl,rfl,rfl,rfl,rfl,xH []⟩
theorem QG (v:List fQ) (hv:v.length≤1099511627776):ai Tryz.prog 88 [.sl 7 (v.map bX) (some false)] [] (.bG 0 0) [Fe v]:=by
 refine gX.made (T:=aR Tryz.prog []) 0 hD (aj ah) a_ ?_
 (conv=>arg 4;cbv);simp only [↓zO,El,↓Ba,↓yN,↓Bb,yO,↓mM,Em,Dk,Nat.reduceAdd,Nat.reduceSub,rq,Q9,bM,FD,FE,wS,dU,forall_const,reduceCtorEq,false_imp_iff,and_true,TK.slice.injEq,exists_eq',true_and]
 simp only [bL,dP,mD,newObj,iW,bM,ne_eq,reduceCtorEq,not_false_eq_true,true_and,if_true,List.all_nil,Nat.zero_mul,Nat.zero_le,List.nil_append,List.length_nil,List.getElem?_cons_zero,Option.some.injEq]
 refine ⟨rfl,rfl,rfl,rfl,?_,_,rfl,rfl,rfl,rfl,rfl,?_,?_,fun _ _ h=>h.elim,_,0,2,_,Weak.refl _ _,rfl,rfl,rfl,rfl,?_,xH v⟩
 · intro y hy
   obtain ⟨n,_,rfl⟩:=List.mem_map.1 hy
   exact ⟨rfl,rfl⟩
 · simp;omega
 · simp;omega
 · simp only [fE,Fe,List.replicate_zero,List.nil_append,Z5]
theorem QH (v:List fQ) (hv:v.length≤1099511627776):ai Tryz.prog 88 [bf v] [] (.bG 0 0) [Fe v]:=
 ai.split (pre:=[]) (post:=[]) (fun h=>by
  have:v=[]:=by simpa using h
  subst this
  exact T_) (QG v hv)
def yE:dF:=fun args objs K=>match args with
 | [a]=>fB bf a (HK.mk:HK fun t=>t.length≤1000000∧K (.bG objs.length 0) (objs++[Fe t]) 2)
 | _=>False
theorem Nk:aB Tryz.prog 88 yE:=by
 intro args objs K h
 unfold yE at h
 split at h
 · rename_i a
   obtain ⟨t,rfl,hv,hk⟩:=h
   have h:=mH.made (P:=Tryz.prog) (objs:=objs) _ _ rfl (xH t) (QH t (by omega))
   exact ⟨_,_,_,h,by simpa [PV.shift,PV.qj] using hk⟩
 · exact h.elim
end Lp
namespace Lp
open Go
def EK (x:fQ):fQ:=⟨J3 x.n,x.c⟩
def fJ (t:aC):Int:=match t with | n::_=>n.n | []=>0
def C8 (t:aC):List UInt8:=match t with | n::_=>n.s | []=>[]
def vU (t:aC):Int:=match t with | n::_=>n.many | []=>0
def rH (t:aC) (A:List fQ) (x:fQ):Bool:=(kS (fJ t) (A++[EK x])).2
def sj (t u:aC) (k:Nat):Bool:=jy (fJ t) k && !jy (fJ u) k && (kS ((2 ^ k:Nat):Int) (bT t)).2
def um (t u:aC):Bool:=!(List.range 5).any (sj t u) && !(bT u).any (rH t (bT t))
def Xq {α:Type}(nm:List UInt8):List (List UInt8×α)→Option α
 | []=>none
 | (k,v)::r=>if k=nm then some v else Xq nm r
def dD (t:aC):List (List UInt8×aC):=(gP t).zip (aG t)
def vG (S:aC→aC→Bool) (t:aC) (p:List UInt8×aC):Bool:=match Xq p.1 (dD t) with | some x=>S x p.2 | none=>false
def wm (S:aC→aC→Bool) (t u:aC):Bool:=(dD u).all (vG S t) && (decide (fJ u=1) || decide (fJ t=0) && decide (vU t=vU u))
def fZ (S:aC→aC→Bool):List aC→List aC→Bool
 | [],[]=>true
 | x::xs,y::ys=>S x y && fZ S xs ys
 | _,_=>false
def y0 (u:aC):aC:=(aG u).headD []
def QI (S:aC→aC→Bool) (t u:aC):Bool:=(aG t).all fun p=>S p (y0 u)
def Cu (nm:List UInt8):aC→aC
 | []=>[]
 | n::r=>{ n with name:=nm }::r
def Iw:List UInt8:=[107,101,121]
def o5:List UInt8:=[118,97,108,117,101]
def Ff (t:aC):aC:=⟨2,2,[],[],0,aM⟩::⟨1,0,Iw,[],16,aM⟩::Cu o5 t
def ng (S:aC→aC→Bool) (t u:aC):Bool:=
 if Y.kindOf t=1∧Y.kindOf u=1 then um t u
 else if Y.kindOf t=2∧Y.kindOf u=2 then wm S t u
 else if Y.kindOf t=3∧Y.kindOf u=2 then decide (fJ u=1) && decide ((aG u).length=0)
 else if Y.kindOf t=2∧Y.kindOf u=3 then decide (fJ t=0) && QI S t u
 else if (Y.kindOf t=4∨Y.kindOf t=7∨Y.kindOf t=5)∧Y.kindOf u=5 then QI S t u
 else if Y.kindOf t=8∧Y.kindOf u=5 then S (qW ⟨5,0,[],[],0,aM⟩ (aG t)) (y0 u)
 else if Y.kindOf t=6∧Y.kindOf u=5 then S (Ff (y0 t)) (y0 u)
 else if Y.kindOf u=0 then true
 else decide (Y.kindOf t=Y.kindOf u) && decide (C8 t=C8 u) && fZ S (aG t) (aG u)
def Xr:Nat→aC→aC→Bool
 | 0,_,_=>false
 | f+1,t,u=>ng (Xr f) t u
def f_ (t u:aC):Bool:=Xr u.length t u
variable {pk:List UInt8→Bool}{qM:List UInt8→List Stp}
theorem adk {u:aC}(h:aG u≠[]):y0 u ∈ aG u:=by
 unfold y0
 cases hp:aG u with
 | nil=>exact absurd hp h
 | cons a l=>simp
theorem uG.xI {u:aC}(h:uG pk qM u) (hk:Y.kindOf u=3∨Y.kindOf u=5∨Y.kindOf u=6∨Y.kindOf u=7∨Y.kindOf u=8):∃ p,aG u=[p]:=by
 cases u with
 | nil=>exact absurd rfl h.one.ne
 | cons n r=>
  have hk':n.kind=3∨n.kind=5∨n.kind=6∨n.kind=7∨n.kind=8:=hk
  obtain ⟨h1,h2,ps,h3,_⟩:=h.parts
  have hm:n.many=1:=by
   rcases hk' with e | e | e | e | e <;> simp [bK,e] at h1 <;> simp only [and_assoc] at h1 <;> exact h1.1
  have hl:=Y.bS _ _ _ h3
  have:n.kind≠1:=by omega
  simp only [aG,this,if_false,iF h3]
  rw [hm] at hl
  match ps,hl with
  | [p],_=>exact ⟨_,rfl⟩
theorem sub_congr {S S':aC→aC→Bool}{t u:aC}(hu:uG pk qM u) (h:∀ x y,y ∈ aG u→S x y=S' x y):ng S t u=ng S' t u:=by
 have hy:(Y.kindOf u=3∨Y.kindOf u=5)→∀ x,S x (y0 u)=S' x (y0 u):=fun hk x=>by
  obtain ⟨p,hp⟩:=hu.xI (by omega)
  exact h x _ (adk (by rw [hp];simp))
 have ha:(Y.kindOf u=3∨Y.kindOf u=5)→QI S t u=QI S' t u:=fun hk=>by
  unfold QI
  congr 1
  funext p
  exact hy hk p
 have hp:∀ xs ys:List aC,(∀ y ∈ ys,y ∈ aG u)→fZ S xs ys=fZ S' xs ys:=by
  intro xs
  induction xs with
  | nil=>intro ys _;cases ys <;> rfl
  | cons x xs ih=>
   intro ys hys
   cases ys with
   | nil=>rfl
   | cons y ys=>
    simp only [fZ]
    rw [h x y (hys y (List.mem_cons_self ..)),ih ys fun z hz=>hys z (List.mem_cons_of_mem _ hz)]
 have ho:wm S t u=wm S' t u:=by
  unfold wm
  have:(dD u).all (vG S t)=(dD u).all (vG S' t):=by
   rw [Bool.eq_iff_iff,List.all_eq_true,List.all_eq_true]
   have e:∀ p ∈ dD u,vG S t p=vG S' t p:=fun p hpm=>by
    unfold vG
    cases Xq p.1 (dD t) with
    | none=>rfl
    | some x=>exact h x p.2 (List.of_mem_zip (a:=p.1) (b:=p.2) hpm).2
   exact ⟨fun g p hp=>by rw [← e p hp];exact g p hp,fun g p hp=>by rw [e p hp];exact g p hp⟩
  rw [this]
 unfold ng
 split
 · rfl
 split
 · exact ho
 split
 · rfl
 split
 · rename_i c;rw [ha (.inl c.2)]
 split
 · rename_i c;rw [ha (.inr c.2)]
 split
 · rename_i c;exact hy (.inr c.2) _
 split
 · rename_i c;exact hy (.inr c.2) _
 split
 · rfl
 · rw [hp _ _ fun y hy=>hy]
theorem KU:∀ (f g:Nat) (t u:aC),u.length≤f→u.length≤g→uG pk qM u→Xr f t u=Xr g t u
 | 0,_,_,u,h,_,hr=>by have:=hr.one.ne;cases u <;> simp at h this
 | f+1,0,_,u,_,h,hr=>by have:=hr.one.ne;cases u <;> simp at h this
 | f+1,g+1,_,[],_,_,hr=>absurd rfl hr.one.ne
 | f+1,g+1,t,n::r,h1,h2,hr=>by
  simp only [List.length_cons] at h1 h2
  simp only [Xr]
  refine sub_congr hr fun x y hy=>?_
  have:=hr.part y hy
  exact KU f g x y (by omega) (by omega) this.1
theorem Cv (t:aC){u:aC}(hu:uG pk qM u):f_ t u=ng f_ t u:=by
 cases u with
 | nil=>exact absurd rfl hu.one.ne
 | cons n r=>
  show ng (Xr r.length) t (n::r)=_
  refine sub_congr hu fun x y hy=>?_
  have:=hu.part y hy
  exact KU _ _ x y this.2 (Nat.le_refl _) this.1
end Lp
namespace Lp
open Go Go.Proofs
open Nat (reduceAdd reduceLeDiff reduceMul reduceSub)
open Int (reduceLE reduceToNat)
def zF (l:List fQ):Prop:=∀ a ∈ l,fe a.c∧a.c.s.length≤500000∧0≤a.n∧a.n≤5
theorem Nl (A:List fQ) (t:aC) (n:dY) (x:fQ) (hg0:t[0]?=some n) (hn:0≤n.n∧n.n≤31) (hl:A.length≤100000) (hA:zF A) (hx:zF [x]) :
  ai Tryz.prog 87 [bX x,.addr (bf A),.addr (aA t)] [] (.bool (kS n.n (A++[EK x])).2) []:=by
 refine Fb.bg (T:=aR Tryz.prog [(88,yE),(89,BZ),(85,qH)]) 1 hD (aj (af Nk (af PX (af ED ah)))) a_ (by decide) fun Q hQ=>?_
 (conv=>arg 4;cbv);simp(maxSteps:=400000)only[↓av,ax,BEq.rfl,reduceIte,reduceCtorEq,Nat.reduceLT,reduceAdd,reduceSub,reduceMul,Nat.reduceBEq,reduceLeDiff,reduceToNat,reduceLE,hQ]
 refine aN _ (Weak.freeze 1 0 (Nat.zero_le _) _) ?_
 have hoa:(Fe A).live=true∧(Fe A).ver=0∧(Fe A).sz=7∧(Fe A).ty=29∧(Fe A).xs=A.map bX:=⟨rfl,rfl,rfl,rfl,rfl⟩
 simp(maxSteps:=400000)only[↓av,ax,BEq.rfl,reduceIte,reduceCtorEq,Nat.reduceLT,reduceAdd,reduceSub,reduceMul,Nat.reduceBEq,reduceLeDiff,reduceToNat,reduceLE,hQ,OL,↓yE,↓BZ,Zw,hoa]
 refine ⟨by omega,(hx x (by simp)).2.2,by omega,by omega,by decide,?_⟩
 refine aN _ (Weak.freeze 1 0 (Nat.zero_le _) _) ?_
 have hz:∀ v,eY 1 0 [⟨29,7,A.map bX++[bX ⟨J3 x.n,x.c⟩],true,v⟩] (.bG 0 v)=bf (A++[EK x]):=fun v=>by
  have:=FQ (A++[EK x]) v 29 []
  simpa [EK] using this
 simp(maxSteps:=400000)only[↓av,ax,BEq.rfl,reduceIte,reduceCtorEq,Nat.reduceLT,reduceAdd,reduceSub,reduceMul,Nat.reduceBEq,reduceLeDiff,reduceToNat,reduceLE,hQ,hz,hg0,↓qH,kI,bA,bO,bP]
 have hall:∀ a ∈ A++[EK x],fe a.c∧a.c.s.length≤500000:=fun a ha=>by
  rcases List.mem_append.1 ha with h | h
  · exact ⟨(hA a h).1,(hA a h).2.1⟩
  · rw [List.mem_singleton.1 h]
    exact ⟨(hx x (by simp)).1,(hx x (by simp)).2.1⟩
 exact ⟨hn,by omega,fun a ha=>(hall a ha).1,fun a ha=>(hall a ha).2⟩
structure y7 (t:aC) (A:List fQ):Prop where
 ne:t≠[]
 tl:t.length≤1000000
 mask:0≤fJ t∧fJ t≤31
 len:A.length≤100000
 ok:zF A
theorem JK (A:List fQ) (t:aC) (x:fQ) (h:y7 t A) (hx:zF [x]) :
  ai Tryz.prog 87 [bX x,.addr (bf A),.addr (aA t)] [] (.bool (rH t A x)) []:=by
 cases t with
 | nil=>exact absurd rfl h.ne
 | cons n r=>exact Nl A (n::r) n x rfl h.mask h.len h.ok hx
def qL (t:aC) (A:List fQ):dF:=fun args objs K=>match args with
 | [a0,a1,a2]=>fB bX a0 (HK.mk:HK fun x=>a1=(.addr (bf A))∧a2=(.addr (aA t))∧(y7 t A)∧(zF [x])∧K (.bool (rH t A x)) objs 0)
 | _=>False
theorem JL (t:aC) (A:List fQ):aB Tryz.prog 87 (qL t A):=by
 intro args objs K h
 unfold qL at h
 split at h
 · rename_i a0 a1 a2
   obtain ⟨x,rfl,rfl,rfl,h1,h2,hk⟩:=h
   exact ⟨_,_,_,.pure _ rfl (JK A t x h1 h2),hk⟩
 · exact h.elim
theorem Nn (t:aC) (A l:List fQ) (hl:l.length≤4611686018427387904) (hs:y7 t A) (ho:zF l):ai Tryz.prog 104 [bf l,.fn 87 [] [.addr (bf A),.addr (aA t)]] [] (.int .i64 (idxOf (rH t A) l)) []:=by
 refine fI.bg (T:=aR Tryz.prog [(87,(qL t A))]) 0 hD (aj (af (JL t A) ah)) a_ (by decide) fun Q hQ=>?_
 (conv=>arg 4;cbv);simp(maxSteps:=400000)only[↓av,ax,BEq.rfl,reduceIte,reduceCtorEq,Nat.reduceLT,reduceAdd,reduceSub,reduceMul,Nat.reduceBEq,reduceLeDiff,reduceToNat,reduceLE,hQ]
 refine aH (fun m S=>∃ i:Nat,i+m=l.length∧(∀ (j:Nat) y,j<i→l[j]?=some y→rH t A y=false)∧S=⟨dI 19 [(0,bf l),(1,.fn 87 [] [.addr (bf A),.addr (aA t)]),(7,.int .i64 l.length),(8,.int .i64 i)],[]⟩) l.length ⟨0,by omega,fun j y h=>absurd h (Nat.not_lt_zero j),?_⟩ ?_
 · simp only [bW,keepR,reduceAdd,nu,Nat.reduceBEq,List.map_nil]
   rfl
 rintro m S ⟨i,him,hb,rfl⟩
 rcases Nat.lt_or_ge i l.length with h | h
 rotate_left 1
 · have hlt:((i:Int)<(l.length:Int))=False:=eq_false (by omega)
   have hr:=u6 (l:=l) fun j y hj=>hb j y (by have:=(List.getElem?_eq_some_iff.1 hj).1;omega) hj
   simp(maxSteps:=400000)only[↓av,ax,BEq.rfl,reduceIte,reduceCtorEq,Nat.reduceLT,reduceAdd,reduceSub,reduceMul,Nat.reduceBEq,reduceLeDiff,reduceToNat,reduceLE,hQ,hlt,hr]
 have hlt:((i:Int)<(l.length:Int))=True:=eq_true (by omega)
 have zi:(0≤(i:Int))=True:=eq_true (by omega)
 have hgi:=List.getElem?_eq_getElem h
 have hao:zF [l[i]]:=fun a ha=>by rw [List.mem_singleton.1 ha];exact ho _ (List.getElem_mem h)
 generalize l[i]=o at hgi hao
 cases hp:rH t A o
 rotate_left 1
 · have hr:idxOf (rH t A) l=i:=idxOf_hit hgi hp hb
   simp(maxSteps:=400000)only[↓av,ax,BEq.rfl,reduceIte,reduceCtorEq,Nat.reduceLT,reduceAdd,reduceSub,reduceMul,Nat.reduceBEq,reduceLeDiff,reduceToNat,reduceLE,hQ,hlt,zi,hgi,↓qL,hp,hr]
   exact ⟨hs,hao⟩
 · simp(maxSteps:=400000)only[↓av,ax,BEq.rfl,reduceIte,reduceCtorEq,Nat.reduceLT,reduceAdd,reduceSub,reduceMul,Nat.reduceBEq,reduceLeDiff,reduceToNat,reduceLE,hQ,hlt,zi,hgi,↓qL,hp]
   refine ⟨hs,hao,⟨by omega,by omega⟩,m-1,by omega,i+1,by omega,fun j y hj hy=>?_,rfl⟩
   rcases Nat.lt_or_ge j i with g | g
   · exact hb j y g hy
   · have:j=i:=by omega
     subst this
     rw [hgi] at hy;cases hy
     exact hp
def vH (t:aC) (A:List fQ):dF:=fun args objs K=>match args with
 | [a0,a1]=>fB bf a0 (HK.mk:HK fun l=>a1=(.fn 87 [] [.addr (bf A),.addr (aA t)])∧(l.length≤4611686018427387904)∧(y7 t A)∧(zF l)∧K (.int .i64 (idxOf (rH t A) l)) objs 0)
 | _=>False
theorem JM (t:aC) (A:List fQ):aB Tryz.prog 104 (vH t A):=by
 intro args objs K h
 unfold vH at h
 split at h
 · rename_i a0 a1
   obtain ⟨l,rfl,rfl,h1,h2,h3,hk⟩:=h
   exact ⟨_,_,_,.pure _ rfl (Nn t A l h1 h2 h3),hk⟩
 · exact h.elim
theorem Np (t:aC) (A l:List fQ) (hl:l.length≤4611686018427387904) (hs:y7 t A) (ho:zF l):ai Tryz.prog 86 [bf l,.fn 87 [] [.addr (bf A),.addr (aA t)]] [] (.bool (l.any (rH t A))) []:=by
 refine eZ.bg (T:=aR Tryz.prog [(104,(vH t A))]) 0 hD (aj (af (JM t A) ah)) a_ (by decide) fun Q hQ=>?_
 (conv=>arg 4;cbv);simp(maxSteps:=400000)only[↓av,ax,BEq.rfl,reduceIte,reduceCtorEq,Nat.reduceLT,reduceAdd,reduceSub,reduceMul,Nat.reduceBEq,reduceLeDiff,reduceToNat,reduceLE,hQ,↓vH,yx]
 exact ⟨hl,hs,ho⟩
def vI (t:aC) (A:List fQ):dF:=fun args objs K=>match args with
 | [a0,a1]=>fB bf a0 (HK.mk:HK fun l=>a1=(.fn 87 [] [.addr (bf A),.addr (aA t)])∧(l.length≤4611686018427387904)∧(y7 t A)∧(zF l)∧K (.bool (l.any (rH t A))) objs 0)
 | _=>False
theorem JN (t:aC) (A:List fQ):aB Tryz.prog 86 (vI t A):=by
 intro args objs K h
 unfold vI at h
 split at h
 · rename_i a0 a1
   obtain ⟨l,rfl,rfl,h1,h2,h3,hk⟩:=h
   exact ⟨_,_,_,.pure _ rfl (Np t A l h1 h2 h3),hk⟩
 · exact h.elim
end Lp
namespace Lp
open Go Go.Proofs
open Nat (reduceAdd reduceLeDiff reduceMul reduceSub)
open Int (reduceLE reduceToNat)
theorem QJ {mask:Int}{k:Nat}(hm:0≤mask∧mask≤31) (hk:k<5):oG .and .i64 mask ((2 ^ k:Nat):Int)=if jy mask k then ((2 ^ k:Nat):Int) else 0:=by
 have key:∀ (m:Fin 32) (k:Fin 5),oG .and .i64 (m.val:Int) ((2 ^ k.val:Nat):Int)=if (m.val / 2 ^ k.val) % 2==1 then ((2 ^ k.val:Nat):Int) else 0:=by decide +kernel
 have:=key ⟨mask.toNat,by omega⟩ ⟨k,hk⟩
 simp only [Int.toNat_of_nonneg hm.1] at this
 exact this
theorem abh {i:Nat}(h:i<5) (K:PV→Prop):nL .shl .i64 .i64 1 (i:Int) K=K (.int .i64 ((2 ^ i:Nat):Int)):=by
 have:i=0∨i=1∨i=2∨i=3∨i=4:=by omega
 rcases this with rfl | rfl | rfl | rfl | rfl <;> simp [nL,IntKind.bits] <;> rfl
theorem abj (a b:Int) (K:PV→Prop):nL .and .i64 .i64 a b K=K (.int .i64 (oG .and .i64 a b)):=by simp [nL]
def scO (a:aC):List Obj:=[yZ a,⟨56,1,[bf (bT a)],true,1⟩]
theorem QK (a b:aC) (hoa:Y.One a) (Fp:Y.One b) (hla:a.length≤100000) (hlb:b.length≤100000) (hA:y7 a (bT a)) (hB:y7 b (bT b)) :
  ai Tryz.prog 57 [aA a,aA b] [] (.bool (um a b)) []:=by
 refine JJ.bg (T:=aR Tryz.prog [(84,qK),(85,qH),(86,(vI a (bT a)))]) 1 hD (aj (af JH (af ED (af (JN a (bT a)) ah)))) a_ (by decide) fun Q hQ=>?_
 obtain ⟨n,hn,hmn⟩:∃ n,a[0]?=some n∧n.n=fJ a:=by
  cases a with
  | nil=>exact absurd rfl hoa.ne
  | cons n r=>exact ⟨n,rfl,rfl⟩
 obtain ⟨n',hn',hmn'⟩:∃ n,b[0]?=some n∧n.n=fJ b:=by
  cases b with
  | nil=>exact absurd rfl Fp.ne
  | cons n r=>exact ⟨n,rfl,rfl⟩
 (conv=>arg 4;cbv);simp(maxSteps:=400000)only[↓av,ax,BEq.rfl,reduceIte,reduceCtorEq,Nat.reduceLT,reduceAdd,reduceSub,reduceMul,Nat.reduceBEq,reduceLeDiff,reduceToNat,reduceLE,hQ,↓qK]
 refine ⟨by omega,hoa,?_⟩
 refine aH (fun m S=>∃ i:Nat,i+m=5∧(∀ k,k<i→sj a b k=false)∧S=⟨dI 46 [(1,aA b),(2,.bI 0 1 0 0),(5,.bI 1 1 0 0),(12,.int .i64 i)],scO a⟩) 5 (hz:=Nat.zero_le _) ⟨0,by omega,fun k h=>absurd h (Nat.not_lt_zero k),?_⟩ ?_
 · simp only [bW,keepR,reduceAdd,nu,Nat.reduceBEq,List.map_nil]
   rfl
 rintro m S ⟨i,him,hb,rfl⟩
 rcases Nat.lt_or_ge i 5 with h | h
 · have hlt:((i:Int)<5)=True:=eq_true (by omega)
   unfold scO yZ
   have h3:=abh h
   have hp0:(((2 ^ i:Nat):Int)=0)=False:=eq_false (by have:=Nat.pow_pos (n:=i) (show 0<2 by decide);omega)
   have hp1:0≤((2 ^ i:Nat):Int)∧((2 ^ i:Nat):Int)≤31:=by
    have:i=0∨i=1∨i=2∨i=3∨i=4:=by omega
    rcases this with rfl | rfl | rfl | rfl | rfl <;> decide
   have hal:=hA.len
   have h1:=QJ hA.mask h
   have h2:=QJ hB.mask h
   have hbi:sj a b i=(jy (fJ a) i && !jy (fJ b) i && (kS ((2 ^ i:Nat):Int) (bT a)).2):=rfl
   have hnx:sj a b i=false→∀ k,k<i+1→sj a b k=false:=fun h k hk=>by
    rcases Nat.lt_or_ge k i with g | g
    · exact hb k g
    · have:k=i:=by omega
      rw [this];exact h
   have hno:sj a b i=true→um a b=false:=fun h=>by
    have:(List.range 5).any (sj a b)=true:=List.any_eq_true.2 ⟨i,List.mem_range.2 (by omega),h⟩
    simp [um,this]
   generalize ((2 ^ i:Nat):Int)=pw at *
   cases hla:jy (fJ a) i with
   | false=>
    rw [hla,if_neg (by decide)] at h1
    have hx:=hnx (by rw [hbi,hla];rfl)
    simp(maxSteps:=400000)only[↓av,ax,BEq.rfl,reduceIte,reduceCtorEq,Nat.reduceLT,reduceAdd,reduceSub,reduceMul,Nat.reduceBEq,reduceLeDiff,reduceToNat,reduceLE,hQ,hlt,hn,hn',hmn,hmn',h1,h2,↓h3,↓abj]
    exact ⟨⟨by omega,by omega⟩,m-1,by omega,i+1,by omega,hx,rfl⟩
   | true=>
    rw [hla,if_pos rfl] at h1
    cases hlb:jy (fJ b) i with
    | true=>
     rw [hlb,if_pos rfl] at h2
     have hx:=hnx (by rw [hbi,hla,hlb];rfl)
     simp(maxSteps:=400000)only[↓av,ax,BEq.rfl,reduceIte,reduceCtorEq,Nat.reduceLT,reduceAdd,reduceSub,reduceMul,Nat.reduceBEq,reduceLeDiff,reduceToNat,reduceLE,hQ,hlt,hn,hn',hmn,hmn',h1,h2,↓h3,↓abj,hp0]
     exact ⟨⟨by omega,by omega⟩,m-1,by omega,i+1,by omega,hx,rfl⟩
    | false=>
     rw [hlb,if_neg (by decide)] at h2
     cases hle:(kS pw (bT a)).2 with
     | true=>
      have hr:=hno (by rw [hbi,hla,hlb,hle];rfl)
      simp(maxSteps:=400000)only[↓av,ax,BEq.rfl,reduceIte,reduceCtorEq,Nat.reduceLT,reduceAdd,reduceSub,reduceMul,Nat.reduceBEq,reduceLeDiff,reduceToNat,reduceLE,hQ,hlt,hn,hn',hmn,hmn',h1,h2,↓h3,↓abj,hp0,↓qH,kI,hle,bA,bO,bP,hr]
      exact ⟨hp1,by omega,fun x hx=>(hA.ok x hx).1,fun x hx=>(hA.ok x hx).2.1⟩
     | false=>
      have hx:=hnx (by rw [hbi,hla,hlb,hle];rfl)
      simp(maxSteps:=400000)only[↓av,ax,BEq.rfl,reduceIte,reduceCtorEq,Nat.reduceLT,reduceAdd,reduceSub,reduceMul,Nat.reduceBEq,reduceLeDiff,reduceToNat,reduceLE,hQ,hlt,hn,hn',hmn,hmn',h1,h2,↓h3,↓abj,hp0,↓qH,kI,hle,bA,bO,bP]
      exact ⟨hp1,by omega,fun x hx=>(hA.ok x hx).1,fun x hx=>(hA.ok x hx).2.1,⟨by omega,by omega⟩,m-1,by omega,i+1,by omega,hx,rfl⟩
 · have hlt:((i:Int)<5)=False:=eq_false (by omega)
   unfold scO yZ
   simp(maxSteps:=400000)only[↓av,ax,BEq.rfl,reduceIte,reduceCtorEq,Nat.reduceLT,reduceAdd,reduceSub,reduceMul,Nat.reduceBEq,reduceLeDiff,reduceToNat,reduceLE,hQ,hlt]
   refine aN _ (Weak.freeze 1 0 (Nat.zero_le _) _) ?_
   have hS:um a b=!(bT b).any (rH a (bT a)):=by
    have:(List.range 5).any (sj a b)=false:=by
     rw [List.any_eq_false]
     intro k hk
     have:=hb k (by have:=List.mem_range.1 hk;omega)
     rw [this];simp
    simp [um,this]
   simp(maxSteps:=400000)only[↓av,ax,BEq.rfl,reduceIte,reduceCtorEq,Nat.reduceLT,reduceAdd,reduceSub,reduceMul,Nat.reduceBEq,reduceLeDiff,reduceToNat,reduceLE,hQ,↓qK,↓vI]
   exact ⟨by omega,Fp,rfl,rfl,by have:=hB.len;omega,hA,hB.ok,hS⟩
def qc:dF:=fun args objs K=>match args with
 | [a0,a1]=>fB aA a0 (HK.mk:HK fun a=>fB aA a1 (HK.mk:HK fun b=>(Y.One a)∧(Y.One b)∧(a.length≤100000)∧(b.length≤100000)∧(y7 a (bT a))∧(y7 b (bT b))∧K (.bool (um a b)) objs 0))
 | _=>False
theorem Cw:aB Tryz.prog 57 (qc):=by
 intro args objs K h
 unfold qc at h
 split at h
 · rename_i a0 a1
   obtain ⟨a,rfl,b,rfl,h1,h2,h3,h4,h5,h6,hk⟩:=h
   exact ⟨_,_,_,.pure _ rfl (QK a b h1 h2 h3 h4 h5 h6),hk⟩
 · exact h.elim
end Lp
namespace Lp
open Go Go.Proofs
open Nat (reduceAdd reduceLeDiff reduceMul reduceSub)
def su (a b:Int):PV:=.agg [.int .i64 a,.int .i64 b]
theorem aeO (a b c d:Int):AB Tryz.prog 55 [.int .i64 a,.int .i64 b] [.int .i64 c,.int .i64 d]:=by
 have u3:Tryz.prog.underlying 3=some (.int .i64):=by kernel_rfl
 have u5:Tryz.prog.underlying 55=some (.array 2 3):=by kernel_rfl
 have hc:Tryz.prog.cellsOf 3=1:=by kernel_rfl
 refine ⟨by kernel_rfl,fun w ok vs us r hr h1 h2=>?_⟩
 obtain ⟨inf,acw,_⟩:=(hD 3).info (by simp [bM])
 have e:Op.equal 55 (.agg ⟨vs⟩) (.agg ⟨us⟩)=Op.equalIn (9999+1) 55 (.agg ⟨vs⟩) (.agg ⟨us⟩):=rfl
 obtain ⟨v0,v1,rfl,x0,x1⟩:=O4 h1
 obtain ⟨y0,y1,rfl,z0,z1⟩:=O4 h2
 cases x0;cases x1;cases z0;cases z1
 have pt:∀ (p q:Value) (o:Nat) (v:Value),(#[p,q]:Array Value)[o]?=some v→(part 3 #[p,q] o).run Tryz.prog w=.ok v w:=fun p q o v h=>wX u3 (.inl ⟨_,rfl⟩) h
 simp only [yK,eqS,Bool.and_true,Option.some.injEq,if_true] at hr
 subst hr
 rw [e,run_equalIn_array w 9999 _ _ u5 acw,hc]
 have r2:List.range 2=[0,1]:=rfl
 have e1:(Op.equalIn 9999 3 (.int .i64 a) (.int .i64 c)).run Tryz.prog w=.ok (a==c) w:=run_equalIn_int w 9998 3 .i64 .i64 a c u3
 have e2:(Op.equalIn 9999 3 (.int .i64 b) (.int .i64 d)).run Tryz.prog w=.ok (b==d) w:=run_equalIn_int w 9998 3 .i64 .i64 b d u3
 have i0:∀ p q:Value,(#[p,q]:Array Value)[0]=p:=fun _ _=>rfl
 simp only [r2,Op.eqItems,Sem.run_bind,Nat.zero_mul,Nat.one_mul,pt _ _ 0 _ rfl,pt _ _ 1 _ rfl,Result.andThen_ok,i0,e1]
 by_cases h1:a=c
 · subst h1
   simp only [BEq.rfl,Bool.not_true,Bool.false_eq_true,if_false,Sem.run_bind,pt _ _ 1 _ rfl,Result.andThen_ok,decide_true,Bool.true_and]
   simp only [List.getElem_toArray,List.getElem_cons_succ,List.getElem_cons_zero,e2,Result.andThen_ok]
   by_cases h2:b=d <;> simp [h2]
 · simp [h1]
theorem Z6 (objs:List Obj) (K:KT) :
  (∀ a b,bF D 55 [(0,.int .i64 a),(1,.int .i64 b)] objs K=K (su a b) objs 0):=by
 have z:aI (D 55)=su 0 0:=by kernel_rfl
 have a:(D 55).agg=true:=by kernel_rfl
 simp only [bM] at z a
 intro x y
 simp [bF,lJ,a,z,bM,mr,su,PV.isAgg,qi,PV.cells,PV.storable,PV.lV,PV.pure]
theorem eqK (ti:aD) (a b c d:Int) (K:PV→Prop):oH Tryz.prog ti 55 .eql (su a b) (su c d) K=K (.bool (decide (a=c) && decide (b=d))):=by
 show (AB Tryz.prog 55 [.int .i64 a,.int .i64 b] [.int .i64 c,.int .i64 d]∧∃ r,yK [.int .i64 a,.int .i64 b] [.int .i64 c,.int .i64 d]=some r∧K (.bool r))=_
 simp [aeO,yK,eqS]
theorem zK:PV.vX (.agg ⟨[.int .i64 0,.int .i64 0]⟩)=su 0 0:=rfl
theorem pK (a b x y:Int):(su a b).putCells 0 [.int .i64 x,.int .i64 y]=su x y:=rfl
theorem pS (s:Nat) (xs:List PV) (q:Option Bool) (x:PV):(PV.sl s xs q).putCells 0 [x]=x:=rfl
theorem jW (X:List aC) (rest:List Obj):eY 1 0 (⟨54,1,[dm X],true,1⟩::rest) (.bI 0 1 0 0)=.addr (dm X):=rfl
theorem jX (o:Obj) (X:List aC) (rest:List Obj):eY 1 0 (o::⟨54,1,[dm X],true,1⟩::rest) (.bI 1 1 0 0)=.addr (dm X):=rfl
theorem pq (a b:Int) (rest:List Obj):eY 1 0 (⟨55,2,[su a b],true,1⟩::rest) (.bI 0 1 0 0)=.addr (su a b):=rfl
theorem kC (a b:Int):(su a b).cells=[.int .i64 a,.int .i64 b]∧(su a b).isAgg=true∧(su a b).pure=true∧(∀ d m O,eY d m O (su a b)=su a b)∧(∀ d m O,gQ d m O (su a b)=su a b):=⟨rfl,rfl,rfl,fun _ _ _=>rfl,fun _ _ _=>rfl⟩
theorem Xt (a b k j:Int):ai Tryz.prog 56 [.int .i64 a,.int .i64 b,.addr (su k j)] [] (.bool (decide (k=a) && decide (j=b))) []:=by
 refine Nj.bg (T:=aR Tryz.prog []) 0 hD (aj ah) a_ (by decide) fun Q hQ=>?_
 (conv=>arg 4;cbv);simp(maxSteps:=400000)only[↓av,ax,BEq.rfl,reduceIte,reduceCtorEq,Nat.reduceLT,reduceAdd,reduceSub,reduceMul,Nat.reduceBEq,reduceLeDiff,Int.reduceToNat,Int.reduceLE,hQ,↓Z6,↓eqK,kC,List.length_cons,List.length_nil]
def gD (k j:Int):dF:=fun args objs K=>match args with
 | [.int .i64 a,.int .i64 b,c]=>c=.addr (su k j)∧K (.bool (decide (k=a) && decide (j=b))) objs 0
 | _=>False
theorem Iy (k j:Int):aB Tryz.prog 56 (gD k j):=by
 intro args objs K h
 unfold gD at h
 split at h
 · rename_i a b c
   obtain ⟨rfl,hk⟩:=h
   exact ⟨_,_,_,.pure _ rfl (Xt a b k j),hk⟩
 · exact h.elim
theorem Nq (a b:aC) (hoa:Y.One a) (Fp:Y.One b) (hla:a.length≤100000) (hlb:b.length≤100000) (hA:y7 a (bT a)) (hB:y7 b (bT b)) (ka:Y.kindOf a=1) (kb:Y.kindOf b=1) :
  ai Tryz.prog 20 [aA a,aA b] [] (.bool (um a b)) []:=by
 refine Im.bg (T:=aR Tryz.prog [(52,kJ),(57,qc),(56,(gD 1 1))]) 1 hD (aj (af si (af Cw (af (Iy 1 1) ah)))) a_ (by decide) fun Q hQ=>?_
 obtain ⟨n,hn,hkn⟩:∃ n,a[0]?=some n∧n.kind=1:=by
  cases a with
  | nil=>exact absurd rfl hoa.ne
  | cons n r=>exact ⟨n,rfl,ka⟩
 obtain ⟨n',hn',hkn'⟩:∃ n,b[0]?=some n∧n.kind=1:=by
  cases b with
  | nil=>exact absurd rfl Fp.ne
  | cons n r=>exact ⟨n,rfl,kb⟩
 (conv=>arg 4;cbv);simp(maxSteps:=400000)only[↓av,ax,BEq.rfl,reduceIte,reduceCtorEq,Nat.reduceLT,reduceAdd,reduceSub,reduceMul,Nat.reduceBEq,reduceLeDiff,Int.reduceToNat,Int.reduceLE,hQ,↓kJ,pS]
 refine ⟨hoa,by omega,Fp,by omega,?_⟩
 refine aN _ (Weak.freeze 1 0 (Nat.zero_le _) _) ?_
 simp(maxSteps:=400000)only[↓av,ax,BEq.rfl,reduceIte,reduceCtorEq,Nat.reduceLT,reduceAdd,reduceSub,reduceMul,Nat.reduceBEq,reduceLeDiff,Int.reduceToNat,Int.reduceLE,hQ,hn,hn',hkn,hkn',↓Z6,jW,jX,zK,pK,kC]
 refine ⟨by decide,?_⟩
 refine aN _ (Weak.freeze 1 0 (Nat.zero_le _) _) ?_
 simp(maxSteps:=400000)only[↓av,ax,BEq.rfl,reduceIte,reduceCtorEq,Nat.reduceLT,reduceAdd,reduceSub,reduceMul,Nat.reduceBEq,reduceLeDiff,Int.reduceToNat,Int.reduceLE,hQ,pq,jW,jX,↓gD,↓qc]
 exact ⟨hoa,Fp,hla,hlb,hA,hB⟩
end Lp
namespace Lp
open Go Go.Proofs
def adl:Nd:=⟨3,0,[],[50],false,0⟩
def abk:aC:=[⟨1,0,[],[],8,aM⟩]
def tyA:aC:=[⟨1,1,[],[],8,aM⟩,⟨9,0,[],[],4,adl⟩]
def tyU:aC:=[⟨1,1,[],[],24,aM⟩,⟨9,0,[],[],1,adl⟩]
def aeP:Stp:=⟨false,[97],0⟩
theorem QL:fG abk=true∧fG tyA=true∧fG tyU=true∧QD abk [] ⟨4,adl⟩=(tyA,0)∧QD tyA [aeP] ⟨0,aM⟩=([],6):=by decide +kernel
theorem Xu:um tyA tyU=true∧um tyU tyA=false:=by decide +kernel
def adm (x:PV) (p:List Stp):Prop:=x=gL p∨(x=.sl 0 [] (some true)∧p=[])
theorem adn (a:List Stp) (P:List Stp→Prop):(∃ l,adm (gL a) l∧P l)=P a:=by
 apply propext
 constructor
 · rintro ⟨l,h | ⟨h,_⟩,hp⟩
   · rw [tC _ _ h];exact hp
   · simp [gL] at h
 · exact fun h=>⟨a,.inl rfl,h⟩
theorem ado (P:List Stp→Prop):(∃ l,adm (.sl 0 [] (some true)) l∧P l)=P []:=by
 apply propext
 constructor
 · rintro ⟨l,h | ⟨_,rfl⟩,hp⟩
   · simp [gL] at h
   · exact hp
 · exact fun h=>⟨[],.inr ⟨rfl,rfl⟩,h⟩
def vJ:dF:=fun args objs K=>match args with
 | [a,x,b]=>fB aA a (HK.mk:HK fun t=>∃ p,adm x p∧fB bX b (HK.mk:HK fun c=>t.length≤100000∧Y.One t∧p.length≤1000000∧Z4 t p∧K (.b_ [aA (QD t p c).1,.int .i64 (QD t p c).2]) objs 0))
 | _=>False
theorem JO:aB Tryz.prog 11 vJ:=by
 intro args objs K h
 unfold vJ at h
 split at h
 · obtain ⟨t,rfl,p,hx,c,rfl,h1,h2,h3,h4,hk⟩:=h
   have hs:=(QF t p c h1 h2 h3 h4).res (QE t p c)
   rcases hx with rfl | ⟨rfl,rfl⟩
   · exact ⟨_,_,_,.pure _ rfl hs,hk⟩
   · refine ⟨_,_,_,.pure _ rfl (hs.arg rfl fun i p q hp hq=>?_),hk⟩
     match i with
     | 0=>cases hp;cases hq;exact .refl _
     | 1=>cases hp;cases hq;exact tq 0 3
     | 2=>cases hp;cases hq;exact .refl _
     | _+3=>simp at hp
 · exact h.elim
def vK:dF:=fun args objs K=>match args with
 | [a0,a1]=>fB aA a0 (HK.mk:HK fun a=>fB aA a1 (HK.mk:HK fun b=>(Y.One a)∧(Y.One b)∧(a.length≤100000)∧(b.length≤100000)∧(y7 a (bT a))∧(y7 b (bT b))∧(Y.kindOf a=1)∧(Y.kindOf b=1)∧K (.bool (um a b)) objs 0))
 | _=>False
theorem JP:aB Tryz.prog 20 (vK):=by
 intro args objs K h
 unfold vK at h
 split at h
 · rename_i a0 a1
   obtain ⟨a,rfl,b,rfl,h1,h2,h3,h4,h5,h6,h7,h8,hk⟩:=h
   exact ⟨_,_,_,.pure _ rfl (Nq a b h1 h2 h3 h4 h5 h6 h7 h8),hk⟩
 · exact h.elim
theorem stB (objs:List Obj) (K:KT):(∀ nm,bF D 61 [(1,.str nm)] objs K=K (encS ⟨false,nm,0⟩) objs 0):=by
 have z:aI (D 61)=encS ⟨false,[],0⟩:=by kernel_rfl
 have a:(D 61).agg=true:=by kernel_rfl
 simp only [bM] at z a
 intro nm
 simp [bF,lJ,a,z,bM,mr,encS,PV.isAgg,qi,PV.cells,PV.storable,PV.lV,PV.pure]
theorem afE (objs:List Obj) (K:KT):bF D 29 [] objs K=K (bX ⟨0,aM⟩) objs 0:=by
 have z:aI (D 29)=bX ⟨0,aM⟩:=by kernel_rfl
 have a:(D 29).agg=true:=by kernel_rfl
 simp only [bM] at z a
 simp [bF,lJ,a,z,bM,mr,bX,ay,aM,PV.isAgg,qi,PV.cells,PV.storable,PV.lV,PV.pure]
theorem stZ:PV.vX (.agg ⟨[.bool false,.string ⟨⟨[]⟩⟩,.int .i64 0]⟩)=encS ⟨false,[],0⟩:=rfl
theorem stW (a:Stp) (b:Bool) (nm:List UInt8) (n:Int):(encS a).putCells 0 [.bool b,.str nm,.int .i64 n]=encS ⟨b,nm,n⟩:=rfl
theorem QM {t:aC}(h:uG bq d_ t) (p:List Stp):Z4 t p:=fun i x _ hx=>by
 obtain ⟨_,_,h1,_⟩:=Y.r9 h.one hx
 exact ⟨h1,Xm h.good hx⟩
theorem Nr {t:aC}(h:uG bq d_ t) (hk:Y.kindOf t=1) (hl:t.length≤100000) (hs:∀ n ∈ t,n.c.s.length≤500000):y7 t (bT t):=by
 cases t with
 | nil=>exact absurd rfl h.one.ne
 | cons n r=>
  have hk':n.kind=1:=hk
  obtain ⟨h1,h2,h3,h4,h5⟩:=F7 h hk'
  simp only [List.length_cons] at hl
  refine ⟨by simp,by simp only [List.length_cons];omega,⟨by show 0≤n.n;omega,h5⟩,by rw [h1,List.length_map];omega,fun a ha=>?_⟩
  rw [h1] at ha
  obtain ⟨x,hx,rfl⟩:=List.mem_map.1 ha
  have hr:=(h3 x hx).1
  have hc:=hs x (List.mem_cons_of_mem _ hx)
  simp only [gG,Bool.and_eq_true,decide_eq_true_eq] at hr
  exact ⟨⟨hr.2,by show x.c.s.length≤1000000;omega⟩,hc,hr.1.1,hr.1.2⟩
theorem Ns:ai Tryz.prog 10 [] [] (.bool true) []:=by
 refine Au.bg (T:=aR Tryz.prog [(11,vJ),(20,vK),(13,yD)]) 0 hD (aj (af JO (af JP (af Na ah)))) a_ (by decide) fun Q hQ=>?_
 obtain ⟨r0,rA,rU,f1,f2⟩:=QL
 have t0:=tT r0
 have tA:=tT rA
 have tU:=tT rU
 have f1':QD abk [] ⟨4,⟨3,0,[],[50],false,0⟩⟩=(tyA,0):=f1
 have d1:decide (tyA=tyA)=true:=decide_eq_true rfl
 obtain ⟨s1,s2⟩:=Xu
 have e0:([⟨1,0,[],[],8,aM⟩]:aC)=abk:=rfl
 have eA:([⟨1,1,[],[],8,aM⟩,⟨9,0,[],[],4,⟨3,0,[],[50],false,0⟩⟩]:aC)=tyA:=rfl
 have eU:([⟨1,1,[],[],24,aM⟩,⟨9,0,[],[],1,⟨3,0,[],[50],false,0⟩⟩]:aC)=tyU:=rfl
 have eS:(⟨false,[97],0⟩:Stp)=aeP:=rfl
 (conv=>arg 4;cbv);simp(maxSteps:=400000)only[↓av,ax,BEq.rfl,reduceIte,reduceCtorEq,Nat.reduceLT,Nat.reduceAdd,Nat.reduceSub,Nat.reduceMul,Nat.reduceBEq,Nat.reduceLeDiff,Int.reduceToNat,Int.reduceLE,hQ,qR,gM,gV,r_,bY,dO,atB,↓stB,↓afE,bO,bP,↓vJ,adn,ado,e0,eA,eU,eS,f1',f2,bA,stZ,stW,↓vK,s1,s2,↓yD,d1]
 have sA:=Nr tA rfl (by decide) (by decide)
 have sU:=Nr tU rfl (by decide) (by decide)
 exact ⟨by decide,t0.one,QM t0 _,by decide,tA.one,QM tA _,tA.one,tU.one,by decide,by decide,sA,sU,rfl,rfl,tU.one,tA.one,by decide,by decide,sU,sA,rfl,rfl,by decide,by decide⟩
def Av:dF:=fun args objs K=>args=[]∧K (.bool true) objs 0
theorem JQ:aB Tryz.prog 10 Av:=by
 rintro args objs K ⟨rfl,hk⟩
 exact ⟨_,_,_,.pure _ rfl Ns,hk⟩
theorem gW (objs:List Obj) (K:KT):Av [] objs K=K (.bool true) objs 0:=propext ⟨fun h=>h.2,fun h=>⟨rfl,h⟩⟩
end Lp
namespace Lp
open Go Go.Proofs
end Lp
namespace Lp
open Go Go.Proofs
instance :Inhabited Stp:=⟨⟨false,[],0⟩⟩
section
variable {H:Type}{eh:TypeId×Value→H}{w:World}{base:Nat}{v:Value}{d:DataW H}{p:List MemPlace}
end
end Lp
namespace Lp
open Go Go.Proofs Go.RowKit
def U6 (p:Int×Int):PV:=.agg [.int .i64 p.1,.int .i64 p.2]
structure Z7 (p:Int×Int):Prop where
 one:-9223372036854775808≤p.1∧p.1≤9223372036854775807
 two:-9223372036854775808≤p.2∧p.2≤9223372036854775807
theorem QN (a b:Int) (objs:List Obj) (K:KT) :
  (aZ D 55 (.addr (.agg [.int .i64 a,.int .i64 b])) (.int .i64 0) objs K=K (.addr (.int .i64 a)) objs 0)∧
  (aZ D 55 (.addr (.agg [.int .i64 a,.int .i64 b])) (.int .i64 1) objs K=K (.addr (.int .i64 b)) objs 0):=by
 have h1:(D 3).kind≠.none:=by intro h;cases h
 exact ⟨propext ⟨fun h=>h.2.2.2.2.2.2,fun h=>⟨h1,by decide,by decide,Nat.le_of_ble_eq_true rfl,by decide,rfl,h⟩⟩,
  propext ⟨fun h=>h.2.2.2.2.2.2,fun h=>⟨h1,by decide,by decide,Nat.le_of_ble_eq_true rfl,by decide,rfl,h⟩⟩⟩
theorem orR (a b:Int) (K:PV→Prop):nL .or .i64 .i64 a b K=K (.int .i64 (oG .or .i64 a b)):=by simp [nL]
theorem QO:∀ a ∈ List.range 32,∀ b ∈ List.range 32,(oG .or .i64 (a:Int) (b:Int)=((a ||| b:Nat):Int)∧(a ||| b)≤31∧∀ k ∈ List.range 5,jy ((a ||| b:Nat):Int) (k:Int)=(jy (a:Int) k || jy (b:Int) k)):=by decide +kernel
theorem or_mask {a b:Int}(ha:0≤a∧a≤31) (hb:0≤b∧b≤31):0≤oG .or .i64 a b∧oG .or .i64 a b≤31∧∀ k:Int,0≤k→k<5→jy (oG .or .i64 a b) k=(jy a k || jy b k):=by
 obtain ⟨m,rfl⟩:=Int.eq_ofNat_of_zero_le ha.1
 obtain ⟨n,rfl⟩:=Int.eq_ofNat_of_zero_le hb.1
 obtain ⟨h1,h2,h3⟩:=QO m (List.mem_range.2 (by omega)) n (List.mem_range.2 (by omega))
 rw [h1]
 refine ⟨by omega,by omega,fun k k0 k5=>?_⟩
 obtain ⟨j,rfl⟩:=Int.eq_ofNat_of_zero_le k0
 exact h3 j (List.mem_range.2 (by omega))
end Lp
namespace Lp
open Go Go.Proofs
theorem abl:Tryz.prog.underlying 55=some (.array 2 3):=by kernel_rfl
theorem afL {H:Type}{eh:TypeId×Value→H}{w:World}{base:Nat}{v:Value}{d:DataW H}{p:List MemPlace}
  (hv:Value.okWide Tryz.prog w .any base 55 v) (h:DataW.Trod eh Tryz.prog w 0 (fun _=>true) true 55 v d p) (hw:∀ n ∈ DataW.weights Tryz.prog 55 d,n≤reachBytes) :
  ∃ a,Z7 a∧dz w (fun _=>True) (U6 a) v:=by
 have hv2:∃ cs,v=.agg cs∧cs.size=Tryz.prog.cellsOf 55:=by
  simp only [Value.okWide,abl] at hv
  obtain ⟨cs,h1,h2,_⟩:=hv
  exact ⟨cs,h1,h2⟩
 obtain ⟨⟨cs⟩,rfl,hl⟩:=hv2
 obtain ⟨fuel,h⟩:=h
 have hc:Tryz.prog.cellsOf 55=2:=by kernel_rfl
 rw [hc] at hl
 simp only [List.size_toArray] at hl
 obtain ⟨v0,v1,rfl⟩:∃ v0 v1,cs=[v0,v1]:=by
  clear h
  match cs,hl with
  | [v0,v1],_=>exact ⟨v0,v1,rfl⟩
 · obtain ⟨xs,m,_,he,_,hxl,hf⟩:=DataW.trod_array abl h
   have h0:=hf 0 (by omega)
   have h1:=hf 1 (by omega)
   rw [EH] at h0 h1
   match xs,hxl with
   | [y0,y1],_=>
    have e1:d=.agg [y0.1,y1.1]:=congrArg Prod.fst he
    subst e1
    have w0:∀ n ∈ DataW.weights Tryz.prog 3 y0.1,n≤reachBytes:=fun n hn=>hw n (by rw [DataW.weights,abl];simp [DataW.weightsAll,hn])
    have w1:∀ n ∈ DataW.weights Tryz.prog 3 y1.1,n≤reachBytes:=fun n hn=>hw n (by rw [DataW.weights,abl];simp [DataW.weightsAll,hn])
    obtain ⟨s,g0,r0⟩:=Rd.int Cq eh w m [v0] y0 h0 w0
    obtain ⟨t,g1,r1⟩:=Rd.int Cq eh w m [v1] y1 h1 w1
    refine ⟨(s,t),⟨by simpa [Ga] using g0,by simpa [Ga] using g1⟩,?_⟩
    have k0:dz w (fun _=>True) (.int .i64 s) v0:=r0.2 0 _ _ rfl rfl
    have k1:dz w (fun _=>True) (.int .i64 t) v1:=r1.2 0 _ _ rfl rfl
    exact .agg _ _ rfl (fun i p v h1 h2=>by
     match i with
     | 0=>simp at h1 h2;subst h1;subst h2;exact k0
     | 1=>simp at h1 h2;subst h1;subst h2;exact k1
     | i+2=>simp at h1)
end Lp
namespace Lp
open Go Go.Proofs
theorem Nt:aP Tryz.prog 53 7 [.tmp 2] (gen [] [] [] Tryz.f53):=bB Tryz.func53 rfl (by kernel_rfl)
theorem Iz:aP Tryz.prog 55 10 [.tmp 3] (gen [] [] [] Tryz.f55):=bB Tryz.func55 rfl (by kernel_rfl)
theorem jL:aP Tryz.prog 54 9 [.tmp 4] (gen [] [] [] Tryz.f54):=bB Tryz.func54 rfl (by kernel_rfl)
theorem j_:aP Tryz.prog 83 19 [.tmp 4] (gen [] [(387,none)] [] Tryz.f83):=bB Tryz.func83 rfl (by kernel_rfl)
theorem fA:aP Tryz.prog 61 32 [.tmp 6] (gen [] [(229382,none)] [] Tryz.f61):=bB Tryz.func61 rfl (by kernel_rfl)
theorem Fg:aP Tryz.prog 58 57 [.tmp 4] (gen [] [(16419,none)] [] Tryz.f58):=bB Tryz.func58 rfl (by kernel_rfl)
theorem JR:aP Tryz.prog 90 28 [.tmp 2] (gen [] [(3609,none)] [] Tryz.f90):=bB Tryz.func90 rfl (by kernel_rfl)
theorem Nu:aP Tryz.prog 60 10 [.tmp 2] (gen [] [] [] Tryz.f60):=bB Tryz.func60 rfl (by kernel_rfl)
theorem Xv:aP Tryz.prog 59 41 [.tmp 6] (gen [] [(57482,some (1,2))] [9,11] Tryz.f59):=bB Tryz.func59 rfl (by kernel_rfl)
theorem Xw:aP Tryz.prog 91 10 [.tmp 4] (gen [6] [] [] Tryz.f91):=bB Tryz.func91 rfl (by kernel_rfl)
theorem ni:aP Tryz.prog 105 36 [.tmp 2] (gen [] [(3593,none),(234881088,none)] [] Tryz.f105):=bB Tryz.func105 rfl (by kernel_rfl)
theorem Cx:aP Tryz.prog 23 33 [.tmp 4] (gen [11] [(98,none)] [] Tryz.f23):=bB Tryz.func23 rfl (by kernel_rfl)
theorem wo:aP Tryz.prog 6 109 [.tmp 6] (gen [82] [] [1,15] Tryz.f6):=bB Tryz.func6 rfl (by kernel_rfl)
end Lp
namespace Lp
open Go Go.Proofs Go.RowKit
open List (length_cons map_append map_cons map_nil take_add_one take_zero)
open Nat (lt_or_ge reduceAdd reduceLeDiff reduceMul reduceSub zero_le)
open Int (reduceLE reduceToNat)
theorem Ua (n:Int) (h0:0≤n) (h1:n≤1000000):ai Tryz.prog 118 [.sl 0 [] (some true),.int .i64 n] [] (.bG 0 0) [⟨51,11,[],true,0⟩]:=by
 obtain ⟨n,rfl⟩:∃ k:Nat,n=k:=⟨n.toNat,by omega⟩
 refine ai.Sg (by
  obtain ⟨nm,hn,hf⟩:=Tryz.Hg.f4
  exact ⟨_,hf,hn,by kernel_rfl⟩) (by decide) fun w vs ok hg hr=>?_
 obtain ⟨u,v,rfl,h,h'⟩:=O4 hr
 cases O5 h'
 have hu:u=.slice none 0 0:=by
  cases h with
  | slnil=>rfl
  | J6 _ _ hq=>exact absurd rfl hq
  | sl _ _ _ hq=>exact absurd rfl hq
 subst hu
 rcases Nat.eq_zero_or_pos n with h0 | h0
 · subst h0
   refine (Any8.slices_Grow_room Tryz.Hg none 0 0 0 w (by decide) (by decide) (by decide) (by decide)).mono ?_
   rintro e w' ⟨h1,rfl⟩
   exact ⟨_,h1,.refl _ _,.inl rfl⟩
 · obtain ⟨⟨inf,hi0,hzs,hzb,hz0,_⟩,_⟩:=(hD 51).resolve_left (by simp [bM])
   have hzs:inf.size=11:=hzs
   have hzb:inf.bytes=120:=hzb
   have hz0:inf.zero=some (.agg ⟨[.int .i64 0,.int .i64 0,.string ⟨⟨[]⟩⟩,.string ⟨⟨[]⟩⟩,.int .i64 0,.int .i64 0,.int .i64 0,.string ⟨⟨[]⟩⟩,.string ⟨⟨[]⟩⟩,.bool false,.int .i64 0]⟩):=hz0
   have hge:=grownCap_ge w (0+n) 0 51
   have hmx:=grownCap_le_maxLen w (0+n) 0 51 (by unfold maxLen;omega)
   refine (Any8.slices_Grow_grow Tryz.Hg inf _ hi0 hz0 (by omega) none 0 0 n [] w (by decide) (by omega) (by rw [hzb];omega) (by omega) (by simp) (fun _=>rfl) (fun a ha=>by cases ha)).mono ?_
   rintro e w' ⟨h1,rfl⟩
   refine ⟨_,h1,(Below.refl w.heap.size w).drew.alloc (Nat.le_refl _) _,.inr ⟨w.heap.size,_,_,Nat.le_refl _,rfl,heap_alloc_new w.drew _,hmx,?_⟩⟩
   simp only [Array.size_append,size_zeroCells,List.size_toArray,List.length_nil]
   have e6:(Value.agg ⟨[.int .i64 0,.int .i64 0,.string ⟨⟨[]⟩⟩,.string ⟨⟨[]⟩⟩,.int .i64 0,.int .i64 0,.int .i64 0,.string ⟨⟨[]⟩⟩,.string ⟨⟨[]⟩⟩,.bool false,.int .i64 0]⟩).cells.size=11:=by decide
   rw [e6]
   have et:Tryz.BA.t 25=51:=rfl
   rw [et]
   omega
def Cy:dF:=fun args objs K=>match args with
 | [.sl 0 [] (some true),.int .i64 n]=>0≤n∧n≤1000000∧K (.bG objs.length 0) (objs++[⟨51,11,[],true,0⟩]) 2
 | _=>False
theorem QR:aB Tryz.prog 118 Cy:=by
 intro args objs K h
 unfold Cy at h
 split at h
 · rename_i n
   obtain ⟨h0,h1,hk⟩:=h
   have h:=mH.made (objs:=objs) _ _ rfl (fun o ho x hx=>by simp at ho;subst ho;cases hx) (Ua n h0 h1)
   exact ⟨_,_,_,h,by simpa [PV.shift,PV.qj] using hk⟩
 · exact h.elim
theorem Nv (l:List aC){i:Nat}{v:aC}(h:l[i]?=some v):(l.take (i+1)).flatten=(l.take i).flatten++v:=by
 rw [take_add_one,h];simp
theorem Cz (l:List aC){i:Nat}{v:aC}(h:l[i]?=some v):(l.take i).flatten.length+v.length≤l.flatten.length:=by
 have e:l.flatten.length=((l.take (i+1)).flatten++(l.drop (i+1)).flatten).length:=by rw [← List.flatten_append,List.take_append_drop]
 rw [e,take_add_one,h];simp
theorem IA (v:aC) (ver:Nat) (t:TypeId) (rest:List Obj):eY 1 0 (⟨t,11,v.map aL,true,ver⟩::rest) (.bG 0 ver)=aA v:=by
 have e:(v.map aL).map (PV.bJ (iY 0 0 (⟨t,11,v.map aL,true,ver⟩::rest)))=v.map aL:=Ik _ (fun _=>rfl) v
 simp only [eY,Nat.not_lt_zero,if_false,iY,List.getElem?_cons_zero,Nat.le_refl,decide_true,Bool.true_and,beq_self_eq_true,if_true,e]
 rfl
theorem Nw (l:List aC) (hl:l.length≤1000000) (hb:l.flatten.length≤1000000):ai Tryz.prog 105 [dm l] [] (aA l.flatten) []:=by
 refine ni.bg (T:=aR Tryz.prog [(118,Cy)]) 1 hD (aj (af QR ah)) a_ (by decide) fun Q hQ=>?_
 (conv=>arg 4;cbv);simp(maxSteps:=400000)only[↓av,ax,BEq.rfl,reduceIte,reduceCtorEq,Nat.reduceLT,reduceAdd,reduceSub,reduceMul,Nat.reduceBEq,reduceLeDiff,reduceToNat,reduceLE,hQ]
 refine aH (fun m S=>∃ i:Nat,i+m=l.length∧S=⟨dI 36 [(0,dm l),(3,.int .i64 ((l.take i).flatten.length:Nat)),(9,dm l),(10,.int .i64 l.length),(11,.int .i64 i)],[]⟩) l.length ⟨0,by omega,?_⟩ ?_
 · simp only [bW,keepR,reduceAdd,nu,Nat.reduceBEq,map_nil]
   rfl
 rintro m S ⟨i,him,rfl⟩
 rcases lt_or_ge i l.length with h | h
 · have hlt:((i:Int)<(l.length:Int))=True:=eq_true (by omega)
   have hgi:=List.getElem?_eq_getElem h
   generalize l[i]=v at hgi
   have hs:=Nv l hgi
   have hf:=Cz l hgi
   have zi:(0≤(i:Int))=True:=eq_true (by omega)
   have hs':((l.take (i+1)).flatten.length:Int)=(l.take i).flatten.length+v.length:=by rw [hs,List.length_append];omega
   have hn:(((l.take i).flatten.length:Int)+v.length<0)=False:=eq_false (by omega)
   simp(maxSteps:=400000)only[↓av,ax,BEq.rfl,reduceIte,reduceCtorEq,Nat.reduceLT,reduceAdd,reduceSub,reduceMul,Nat.reduceBEq,reduceLeDiff,reduceToNat,reduceLE,hQ,hlt,zi,hgi,hn]
   refine ⟨⟨by omega,by omega⟩,⟨by omega,by omega⟩,m-1,by omega,i+1,by omega,?_⟩
   rw [hs']
   rfl
 have hlt:((i:Int)<(l.length:Int))=False:=eq_false (by omega)
 rw [List.take_of_length_le h]
 simp(maxSteps:=400000)only[↓av,ax,BEq.rfl,reduceIte,reduceCtorEq,Nat.reduceLT,reduceAdd,reduceSub,reduceMul,Nat.reduceBEq,reduceLeDiff,reduceToNat,reduceLE,hQ,hlt,↓Cy]
 refine ⟨by omega,by omega,?_⟩
 refine aH (fun m S=>∃ i ver:Nat,i+m=l.length∧S=⟨dI 36 [(6,.bG 0 ver),(25,dm l),(26,.int .i64 l.length),(27,.int .i64 i)],[⟨51,11,(l.take i).flatten.map aL,true,ver⟩]⟩) l.length ⟨0,0,by omega,?_⟩ ?_
 · simp only [bW,keepR,reduceAdd,nu,Nat.reduceBEq,map_nil]
   rfl
 rintro m' S ⟨j,ver,hjm,rfl⟩
 rcases lt_or_ge j l.length with h' | h'
 rotate_left 1
 · have hlt:((j:Int)<(l.length:Int))=False:=eq_false (by omega)
   simp(maxSteps:=400000)only[↓av,ax,BEq.rfl,reduceIte,reduceCtorEq,Nat.reduceLT,reduceAdd,reduceSub,reduceMul,Nat.reduceBEq,reduceLeDiff,reduceToNat,reduceLE,hQ,hlt]
   rw [List.take_of_length_le h']
   all_goals exact (IA l.flatten ver 51 []).symm
 have hlt:((j:Int)<(l.length:Int))=True:=eq_true (by omega)
 have hgi:=List.getElem?_eq_getElem h'
 generalize l[j]=v at hgi
 have hs:=Nv l hgi
 have hf:=Cz l hgi
 have zi:(0≤(j:Int))=True:=eq_true (by omega)
 simp(maxSteps:=400000)only[↓av,ax,BEq.rfl,reduceIte,reduceCtorEq,Nat.reduceLT,reduceAdd,reduceSub,reduceMul,Nat.reduceBEq,reduceLeDiff,reduceToNat,reduceLE,hQ,hlt,zi,hgi,gM]
 refine ⟨by omega,by omega,⟨by omega,by omega⟩,m'-1,by omega,j+1,ver+1,by omega,?_⟩
 rw [hs]
 rfl
def vL:dF:=fun args objs K=>match args with
 | [a0]=>fB dm a0 (HK.mk:HK fun l=>(l.length≤1000000)∧(l.flatten.length≤1000000)∧K (aA l.flatten) objs 0)
 | _=>False
theorem JS:aB Tryz.prog 105 (vL):=by
 intro args objs K h
 unfold vL at h
 split at h
 · rename_i a0
   obtain ⟨l,rfl,h1,h2,hk⟩:=h
   exact ⟨_,_,_,.pure _ rfl (Nw l h1 h2),hk⟩
 · exact h.elim
theorem Ub (t:dY) (l:List aC) (hl:l.length≤1000000) (hb:l.flatten.length≤1000000):ai Tryz.prog 91 [aL t,dm l] [] (aA (t::l.flatten)) []:=by
 refine Xw.bg (T:=aR Tryz.prog [(105,vL)]) 1 hD (aj (af JS ah)) a_ (by decide) fun Q hQ=>?_
 (conv=>arg 4;cbv);simp(maxSteps:=400000)only[↓av,ax,BEq.rfl,reduceIte,reduceCtorEq,Nat.reduceLT,reduceAdd,reduceSub,reduceMul,Nat.reduceBEq,reduceLeDiff,reduceToNat,reduceLE,hQ,↓vL,gM,gV,r_]
 exact ⟨hl,hb,by omega,by omega,by decide,(abg _ _ _ _ _ _).symm⟩
def CB:dF:=fun args objs K=>match args with
 | [a0,a1]=>fB aL a0 (HK.mk:HK fun t=>fB dm a1 (HK.mk:HK fun l=>(l.length≤1000000)∧(l.flatten.length≤1000000)∧K (aA (t::l.flatten)) objs 0))
 | _=>False
theorem QS:aB Tryz.prog 91 (CB):=by
 intro args objs K h
 unfold CB at h
 split at h
 · rename_i a0 a1
   obtain ⟨t,rfl,l,rfl,h1,h2,hk⟩:=h
   exact ⟨_,_,_,.pure _ rfl (Ub t l h1 h2),hk⟩
 · exact h.elim
def vV (names:List (List UInt8)) (i:Nat) (p:aC):aC:=match names[i]? with | some nm=>Cu nm p | none=>p
def iU (names:List (List UInt8)):Nat→List aC→List aC
 | _,[]=>[]
 | i,p::l=>vV names i p::iU names (i+1) l
theorem CF (names:List (List UInt8)) (p:aC):∀ (l:List aC) (i:Nat),iU names i (l++[p])=iU names i l++[vV names (i+l.length) p]
 | [],i=>rfl
 | q::l,i=>by
  simp only [List.cons_append,iU,length_cons,CF names p l (i+1)]
  rw [show i+1+l.length=i+(l.length+1) by omega]
theorem Xx (names:List (List UInt8)) (i:Nat) (p:aC):(vV names i p).length=p.length:=by
 unfold vV
 split
 · cases p <;> rfl
 · rfl
theorem pQ (names:List (List UInt8)):∀ (l:List aC) (i:Nat),(iU names i l).flatten.length=l.flatten.length∧(iU names i l).length=l.length
 | [],_=>⟨rfl,rfl⟩
 | p::l,i=>by
  have:=pQ names l (i+1)
  simp only [iU,List.flatten_cons,List.length_append,Xx,length_cons]
  omega
def EL (names:List (List UInt8)) (o:Bool):PV:=if o then kG names else .sl 0 [] (some true)
theorem DY (d n:Nat) (X:List Obj) (t:TypeId) (l:List aC) (p:aC) (ver:Nat):fE d n X ⟨t,1,l.map aA++[aA p],true,ver⟩=⟨t,1,l.map aA++[aA p],true,ver⟩:=by
 have:=Qo d n X t (l++[p]) ver
 simpa using this
theorem KV (t:dY) (names:List (List UInt8)) (o:Bool) (l:List aC) (ho:o=false→names=[]) (hn:names.length≤100000) (hl:l.length≤100000) (hf:l.flatten.length≤1000000) (hne:∀ p ∈ l,p≠[]) :
  ai Tryz.prog 59 [aL t,EL names o,dm l] [] (aA ({ t with many:=l.length }::(iU names 0 l).flatten)) []:=by
 refine Xv.bg (T:=aR Tryz.prog [(91,CB),(28,jw)]) 1 hD (aj (af QS (af vF ah))) a_ (by decide) fun Q hQ=>?_
 (conv=>arg 4;cbv);simp(maxSteps:=400000)only[↓av,ax,BEq.rfl,reduceIte,reduceCtorEq,Nat.reduceLT,reduceAdd,reduceSub,reduceMul,Nat.reduceBEq,reduceLeDiff,reduceToNat,reduceLE,hQ,gM,gV,r_]
 have hb:∃ b:dY,b={ t with many:=l.length }:=⟨_,rfl⟩
 obtain ⟨b,hb⟩:=hb
 rw [← hb]
 refine Ku (hz:=zero_le _) ⟨dI 41 [(1,EL names o),(3,.bI 0 1 0 0),(7,.bG 1 0),(13,dm l),(14,.int .i64 l.length),(15,.int .i64 0)],[⟨51,11,[aL b],true,1⟩,⟨23,1,[],true,0⟩]⟩ l.length ?_ ?_ ?_
  (I:=fun m S=>∃ i ver:Nat,i+m=l.length∧S=⟨dI 41 [(1,EL names o),(3,.bI 0 1 0 0),(7,.bG 1 ver),(13,dm l),(14,.int .i64 l.length),(15,.int .i64 i)],[⟨51,11,[aL b],true,1⟩,v_ (iU names 0 (l.take i)) ver]⟩)
 · have e1:∀ d m X,gQ d m X (EL names o)=EL names o:=fun d m X=>by cases o <;> rfl
   simp(maxSteps:=400000)only[↓av,ax,BEq.rfl,reduceIte,reduceCtorEq,Nat.reduceLT,reduceAdd,reduceSub,reduceMul,Nat.reduceBEq,reduceLeDiff,reduceToNat,reduceLE,List.take_nil,e1]
   refine (Weak.Eh 7 23 1 (by rfl)).trans ?_
   rw [rW.1,U3 (m:=[(1,EL names o),(3,.bI 0 1 0 0),(7,.bG 1 0),(13,dm l),(14,.int .i64 l.length),(15,.int .i64 0)])]
   · exact Weak.refl _ _
   · intro i
     simp only [l_]
     by_cases h3:i=7
     · subst h3;rfl
     · simp only [h3,if_false];rfl
 · exact ⟨0,0,by omega,rfl⟩
 rintro m S ⟨i,ver,him,rfl⟩
 rcases lt_or_ge i l.length with h | h
 · have hlt:((i:Int)<(l.length:Int))=True:=eq_true (by omega)
   have zi:(0≤(i:Int))=True:=eq_true (by omega)
   have hgi:=List.getElem?_eq_getElem h
   have hpl:=Cz l hgi
   have hpe:=hne _ (List.getElem_mem h)
   generalize l[i]=p at hgi hpl hpe
   have htk:iU names 0 (l.take (i+1))=iU names 0 (l.take i)++[vV names i p]:=by
    rw [take_add_one,hgi]
    show iU names 0 (l.take i++[p])=_
    rw [CF,List.length_take,Nat.zero_add,Nat.min_eq_left (by omega)]
   obtain ⟨x,q,hpx⟩:∃ x q,p=x::q:=by
    cases p with
    | nil=>exact absurd rfl hpe
    | cons x q=>exact ⟨x,q,rfl⟩
   subst hpx
   simp only [length_cons] at hpl
   have hdl:(iU names 0 (l.take i)).length≤100000:=by rw [(pQ names _ _).2,List.length_take];omega
   have hz:∀ a b:Obj,∀ y:dY,eY 1 2 [a,b,⟨51,11,aL y::q.map aL,true,0⟩] (.bG 2 0)=aA (y::q):=fun a b y=>Nc 2 _ _ q 0 _ rfl
   have hoY:wh (x::q)=⟨51,11,aL x::q.map aL,true,0⟩:=rfl
   cases ho':o with
   | false=>
    have hnm:EL names false=.sl 0 [] (some true):=rfl
    have hnk:vV names i (x::q)=x::q:=by rw [ho ho'];rfl
    have c0:((i:Int)<((0:Nat):Int))=False:=eq_false (by omega)
    have c1:((i:Int)<0)=False:=eq_false (by omega)
    simp(maxSteps:=400000)only[↓av,ax,BEq.rfl,reduceIte,reduceCtorEq,Nat.reduceLT,reduceAdd,reduceSub,reduceMul,Nat.reduceBEq,reduceLeDiff,reduceToNat,reduceLE,hQ,hlt,zi,hgi,hnm,c0,c1,↓jw,hoY]
    refine ⟨by omega,?_⟩
    refine aN _ (Weak.freeze 1 2 ?_ _) ?_
    · exact zero_le _
    simp(maxSteps:=400000)only[↓av,ax,BEq.rfl,reduceIte,reduceCtorEq,Nat.reduceLT,reduceAdd,reduceSub,reduceMul,Nat.reduceBEq,reduceLeDiff,reduceToNat,reduceLE,hQ,hoY,hz,Il,aa9,ZY,Ir,List.take_succ_cons,take_zero]
    exact ⟨by omega,by omega,⟨by omega,by omega⟩,m-1,by omega,i+1,ver+1,by omega,by rw [htk,hnk];simp only [DY,v_,map_append,map_cons,map_nil];rfl⟩
   | true=>
    have hnm:EL names true=kG names:=rfl
    cases hni:names[i]? with
    | none=>
     have hnk:vV names i (x::q)=x::q:=by simp [vV,hni]
     have c0:((i:Int)<(names.length:Int))=False:=eq_false (by have:=List.getElem?_eq_none_iff.1 hni;omega)
     simp(maxSteps:=400000)only[↓av,ax,BEq.rfl,reduceIte,reduceCtorEq,Nat.reduceLT,reduceAdd,reduceSub,reduceMul,Nat.reduceBEq,reduceLeDiff,reduceToNat,reduceLE,hQ,hlt,zi,hgi,hnm,c0,↓jw,hoY]
     refine ⟨by omega,?_⟩
     refine aN _ (Weak.freeze 1 2 ?_ _) ?_
     · exact zero_le _
     simp(maxSteps:=400000)only[↓av,ax,BEq.rfl,reduceIte,reduceCtorEq,Nat.reduceLT,reduceAdd,reduceSub,reduceMul,Nat.reduceBEq,reduceLeDiff,reduceToNat,reduceLE,hQ,hoY,hz,Il,aa9,ZY,Ir,List.take_succ_cons,take_zero]
     exact ⟨by omega,by omega,⟨by omega,by omega⟩,m-1,by omega,i+1,ver+1,by omega,by rw [htk,hnk];simp only [DY,v_,map_append,map_cons,map_nil];rfl⟩
    | some nm=>
     have hnk:vV names i (x::q)={ x with name:=nm }::q:=by simp [vV,hni,Cu]
     have c0:((i:Int)<(names.length:Int))=True:=eq_true (by have:=(List.getElem?_eq_some_iff.1 hni).1;omega)
     simp(maxSteps:=400000)only[↓av,ax,BEq.rfl,reduceIte,reduceCtorEq,Nat.reduceLT,reduceAdd,reduceSub,reduceMul,Nat.reduceBEq,reduceLeDiff,reduceToNat,reduceLE,hQ,hlt,zi,hgi,hnm,c0,hni,↓jw,ZG,List.set_cons_zero]
     refine ⟨by omega,by omega,?_⟩
     refine aN _ (Weak.freeze 1 2 ?_ _) ?_
     · exact zero_le _
     simp(maxSteps:=400000)only[↓av,ax,BEq.rfl,reduceIte,reduceCtorEq,Nat.reduceLT,reduceAdd,reduceSub,reduceMul,Nat.reduceBEq,reduceLeDiff,reduceToNat,reduceLE,hQ,hz,Il,aa9,ZY,Ir,List.take_succ_cons,take_zero]
     exact ⟨by omega,by omega,⟨by omega,by omega⟩,m-1,by omega,i+1,ver+1,by omega,by rw [htk,hnk];simp only [DY,v_,map_append,map_cons,map_nil];rfl⟩
 · have hlt:((i:Int)<(l.length:Int))=False:=eq_false (by omega)
   have hi:l.take i=l:=List.take_of_length_le h
   have e1:∀ D:List aC,eY 1 0 [⟨51,11,[aL b],true,1⟩,v_ D ver] (.bG 1 ver)=dm D:=fun D=>by
    simp only [v_,eY,Nat.not_lt_zero,if_false,iY,List.getElem?_cons_succ,List.getElem?_cons_zero,zero_le,decide_true,Bool.true_and,beq_self_eq_true,if_true,DV (iY 0 0 _) (fun _=>rfl)]
    rfl
   simp(maxSteps:=400000)only[↓av,ax,BEq.rfl,reduceIte,reduceCtorEq,Nat.reduceLT,reduceAdd,reduceSub,reduceMul,Nat.reduceBEq,reduceLeDiff,reduceToNat,reduceLE,hQ,hlt,hi]
   refine aN _ (Weak.freeze 1 0 (zero_le _) _) ?_
   have e0:∀ y:Obj,eY 1 0 [⟨51,11,[aL b],true,1⟩,y] (.bI 0 1 0 0)=.addr (aL b):=fun _=>rfl
   simp(maxSteps:=400000)only[↓av,ax,BEq.rfl,reduceIte,reduceCtorEq,Nat.reduceLT,reduceAdd,reduceSub,reduceMul,Nat.reduceBEq,reduceLeDiff,reduceToNat,reduceLE,hQ,e1,e0,↓CB]
   exact ⟨by have:=pQ names l 0;omega,by have:=pQ names l 0;omega,by rw [hb]⟩
def adp (x:PV) (p:List (List UInt8)):Prop:=x=kG p∨(x=.sl 0 [] (some true)∧p=[])
theorem adq (a:List (List UInt8)) (P:List (List UInt8)→Prop):(∃ l,adp (kG a) l∧P l)=P a:=by
 apply propext
 constructor
 · rintro ⟨l,h | ⟨h,_⟩,hp⟩
   · rw [w9 _ _ h];exact hp
   · simp [kG] at h
 · exact fun h=>⟨a,.inl rfl,h⟩
theorem Z8 (P:List (List UInt8)→Prop):(∃ l,adp (.sl 0 [] (some true)) l∧P l)=P []:=by
 apply propext
 constructor
 · rintro ⟨l,h | ⟨_,rfl⟩,hp⟩
   · simp [kG] at h
   · exact hp
 · exact fun h=>⟨[],.inr ⟨rfl,rfl⟩,h⟩
def Kt (t:dY) (names:List (List UInt8)) (l:List aC):aC:={ t with many:=l.length }::(iU names 0 l).flatten
def uo:dF:=fun args objs K=>match args with
 | [a,x,b]=>fB aL a (HK.mk:HK fun t=>∃ names,adp x names∧fB dm b (HK.mk:HK fun l=>names.length≤100000∧l.length≤100000∧l.flatten.length≤1000000∧(∀ p ∈ l,p≠[])∧K (aA (Kt t names l)) objs 0))
 | _=>False
theorem EM:aB Tryz.prog 59 uo:=by
 intro args objs K h
 unfold uo at h
 split at h
 · obtain ⟨t,rfl,names,hx,l,rfl,h1,h2,h3,h4,hk⟩:=h
   rcases hx with rfl | ⟨rfl,rfl⟩
   · exact ⟨_,_,_,.pure _ rfl (KV t names true l (by simp) h1 h2 h3 h4),hk⟩
   · exact ⟨_,_,_,.pure _ rfl (KV t [] false l (fun _=>rfl) h1 h2 h3 h4),hk⟩
 · exact h.elim
theorem Z9 (t:dY) (l:List aC):Kt t [] l=qW t l:=by
 have:∀ (l:List aC) (i:Nat),iU [] i l=l:=by
  intro l
  induction l with
  | nil=>intro _;rfl
  | cons p l ih=>intro i;simp [iU,ih,vV]
 simp [Kt,qW,this]
theorem Uc (t:aC) (hl:t.length≤100000) (hne:t≠[]):ai Tryz.prog 60 [aA t] [] (aA (Ff t)) []:=by
 refine Nu.bg (T:=aR Tryz.prog [(59,uo)]) 0 hD (aj (af EM ah)) a_ (by decide) fun Q hQ=>?_
 have e:Kt ⟨2,0,[],[],0,aM⟩ [[107,101,121],[118,97,108,117,101]] [[⟨1,0,[],[],16,aM⟩],t]=Ff t:=by
  simp [Kt,iU,vV,Cu,Ff,Iw,o5]
 (conv=>arg 4;cbv);simp(maxSteps:=400000)only[↓av,ax,BEq.rfl,reduceIte,reduceCtorEq,Nat.reduceLT,reduceAdd,reduceSub,reduceMul,Nat.reduceBEq,reduceLeDiff,reduceToNat,reduceLE,hQ,qR,gM,gV,r_,↓uo,adq,Z8,e]
 refine ⟨by simp;omega,fun p hp=>?_⟩
 rcases List.mem_cons.1 hp with rfl | hp
 · simp
 · rw [List.mem_singleton.1 hp];exact hne
def CG:dF:=fun args objs K=>match args with
 | [a0]=>fB aA a0 (HK.mk:HK fun t=>(t.length≤100000)∧(t≠[])∧K (aA (Ff t)) objs 0)
 | _=>False
theorem QT:aB Tryz.prog 60 (CG):=by
 intro args objs K h
 unfold CG at h
 split at h
 · rename_i a0
   obtain ⟨t,rfl,h1,h2,hk⟩:=h
   exact ⟨_,_,_,.pure _ rfl (Uc t h1 h2),hk⟩
 · exact h.elim
end Lp
namespace Lp
open Go
variable {P:Program}{D:TypeId→aD}{T:Know}
def Z_ (d:Nat) (t:Nat) (o':Obj) (e:Exit) (S:St):Prop:=
 (e=.normal∨e=.ret)∧∃ S' k ver o,Weak 0 S S'∧S'.tmps.getD t .dead=.lD k ver∧S'.objs[k]?=some o∧o.live=true∧o.ver=ver∧lY d k S' o=o'∧eX [o']
theorem Ud {base ak:Nat→Prop}{w0:Wz}{S':St}{au:Nat→Option Nat}{a:Act}{w':World}{d k:Nat}{o:Obj}(R':Rel base ak w0 S' au a w') (ho:S'.objs[k]?=some o) (hlv:o.live=true) (hnr:eX [lY d k S' o]) :
  dG base ak [lY d k S' o] (fun j=>if j=0 then au k else none) w'∧
  ∀ v,bD w' (bR base S'.objs au) S'.objs au (.lD k o.ver) v→bD w' (bR base [lY d k S' o] (fun j=>if j=0 then au k else none)) [lY d k S' o] (fun j=>if j=0 then au k else none) (.lD 0 0) v:=by
 refine ⟨(Di R' ho hlv hnr).1,fun v hx=>?_⟩
 obtain ⟨h0,o1,h1,h2,h3⟩:=hx
 rw [ho] at h1
 cases h1
 obtain ⟨hM,g,hg,hv⟩:=h3 hlv rfl
 exact ⟨h0,_,rfl,Nat.le_refl _,fun _ _=>⟨hM,g,by simp only [if_true];exact hg,hv⟩⟩
theorem ai.Ue {f:FuncId}{fn:Func}{c:Code}{C:LC}{args:List PV}{o':Obj}(d:Nat){t n:Nat}(hD:∀ t,iN P t (D t)) (hT:FB P none rV T) (hm:P.follows .mixedOrders=true)
  (hf:P.funcs[f]?=some fn) (hname:(fn.name== "runtime.NumGoroutine")=false) (hb:fn.body=some c) (hn:fn.ntmps=n) (hr:fn.results=#[.tmp t]) (hC:strip C=comp c)
  (h:kW P D T C (Z_ d t o') (bV args n)):ai P f args [] (.lD 0 0) [o']:=by
 refine ⟨⟨fn,hf,hname,by rw [hb];rfl⟩,fun w blk vs base hbase _ hargs=>?_⟩
 have hpw:PW P none rV c (Z_ d t o') (bV args n):=p_ hD hm C _ _ _ c _ _ hT hC h
 have R:=xW hbase hargs n
 have hw:=hpw _ _ (fun x=>(⟨w.heap,[],0,w⟩:Wz)=x) (by rintro z rfl;exact ⟨rfl,rfl⟩) _ _ _ ⟨_,rfl,R⟩
 rw [← callsIn_wide (n:=0)]
 refine callsIn_of_wp_marks hf hb trivial ?_
 rw [hn]
 refine wpIn_mono hw ?_
 rintro e a' w' ⟨S0,Yl,⟨he,S',k,ver,o,hwk,ht,ho,hlv,hv,rfl,hnr⟩,_,rfl,R0⟩
 obtain ⟨au,R'⟩:=hwk _ _ _ _ _ _ (Nat.le_refl _) R0
 have key:∀ w',Rel base (fun b=>b<w.heap.size∧aY [] blk b) ⟨w.heap,[],0,w⟩ S' au { a' with defers:=[] } w'→∃ v,(results fn a'.tmps).run P w'=.ok v w'∧(∃ v' mJ,Ending.returned v=.returned v'∧
     dG base (fun b=>b<w.heap.size∧aY [] blk b) [lY d k S' o] mJ w'∧
     aX w' (bR base [lY d k S' o] mJ) [lY d k S' o] mJ (.lD 0 0) v'∧(∀ b,b<w.heap.size→aY [] blk b→w'.heap[b]?=w.heap[b]?)∧w.heap.size≤w'.heap.size∧Sm w w'):=by
  intro w' R'
  have hx:=R'.ev (.tmp t)
  change aX w' _ _ au (S'.tmps.getD t .dead) (a'.tmps.getD t undef) at hx
  rw [ht,← hv] at hx
  obtain ⟨c1,c2⟩:=Ud (d:=d) R' ho hlv hnr
  exact ⟨_,results_tmp hr _ _ _,a'.tmps.getD t undef,_,rfl,c1,c2 _ hx,fun b hb1 hb2=>R'.fr b ⟨hb1,hb2⟩,R'.gr,R'.sm⟩
 rcases he with rfl | rfl <;> exact nR _ _ R' key
structure acj (d t:Nat) (o':Obj) (S:St):Prop where
 h:Z_ d t o' .ret S
theorem aeQ {d t n:Nat}{o':Obj}{l:List (Nat×PV)}{ob:List Obj}{k ver:Nat}{o:Obj}(h1:(dI n l).getD t .dead=.lD k ver) (h2:ob[k]?=some o) (h3:o.live=true) (h4:o.ver=ver) (h5:{ fE d (k+1) ob o with ver:=0 }=o') (h6:eX [o']):acj d t o' ⟨dI n l,ob⟩:=
 ⟨.inr rfl,_,k,ver,o,Weak.refl _ _,h1,h2,h3,h4,h5,h6⟩
theorem aP.adr {f:FuncId}{n t:Nat}{C:LC}{args:List PV}{o':Obj}(h:aP P f n [.tmp t] C) (d:Nat) (hD:∀ t,iN P t (D t)) (hT:FB P none rV T) (hm:P.follows .mixedOrders=true)
  (hw:∀ Q:Exit→St→Prop,(∀ l ob,Q .ret ⟨dI n l,ob⟩=acj d t o' ⟨dI n l,ob⟩)→kW P D T C Q (bV args n)):ai P f args [] (.lD 0 0) [o']:=by
 obtain ⟨fn,c,h1,h2,h3,h4,h5,h6⟩:=h
 exact ai.Ue d hD hT hm h1 h2 h3 h4 h5 h6 (hw _ fun l ob=>propext ⟨fun h=>⟨h⟩,fun h=>h.h⟩)
theorem abm {k kv n k' kv' n':Nat}{seen seen':List Nat}{i i' v v':Nat}(h:wu k kv n (seen++[i]) v=wu k' kv' n' (seen'++[i']) v'):k=k'∧kv=kv'∧n=n'∧i=i':=by
 simp only [wu,Obj.mk.injEq,List.cons.injEq,PV.lD.injEq,PV.int.injEq,true_and,List.map_append,List.map_cons,List.map_nil] at h
 obtain ⟨⟨⟨h1,h2⟩,h3,h4⟩,_⟩:=h
 obtain ⟨_,h5⟩:=List.append_inj' h4 rfl
 simp only [List.cons.injEq,PV.int.injEq,true_and,and_true] at h5
 exact ⟨h1,h2,by omega,by omega⟩
theorem ads {objs:List Obj}{j ver k kv n i:Nat}{seen:List Nat}{mo:Obj}{key v:PV}(h1:objs[j]?=some (wu k kv n (seen++[i]) ver)) (h2:objs[k]?=some mo) (h3:mo.live=true) (h4:mo.ver=kv) (h5:mo.sz=2) (h6:mo.xs.length=n) (h7:mo.xs[i]?=some (.agg [key,v])) (K:KT) :
  uN (.lD j ver) objs K=K (.b_ [key,v]) objs 1:=by
 refine propext ⟨fun h=>?_,fun h=>⟨k,kv,n,seen,i,mo,key,v,h1,h2,h3,h4,h5,h6,h7,h⟩⟩
 obtain ⟨k',kv',n',seen',i',mo',key',v',g1,g2,_,_,_,_,g7,hk⟩:=h
 rw [h1] at g1
 obtain ⟨rfl,rfl,rfl,rfl⟩:=abm (Option.some.inj g1)
 rw [h2] at g2;cases g2
 rw [h7] at g7
 cases g7
 exact hk
end Lp
namespace Lp
open Go Go.Proofs
def pu (p:List UInt8×aC):PV:=.agg [.str p.1,aA p.2]
def Uf (l:List (List UInt8×aC)):Obj:=⟨MT,2,l.map pu,true,1⟩
theorem KW {α:Type}(enc:α→PV) (nm:List UInt8):∀ (l:List (List UInt8×α)) (i:Nat),(∀ p ∈ l,p.1≠nm)→q8 .str (.str nm) (l.map fun p=>.agg [.str p.1,enc p.2]) i=some none
 | [],_,_=>rfl
 | p::l,i,h=>by
  have h1:(decide (nm=p.1))=false:=decide_eq_false fun e=>h p (List.mem_cons_self ..) e.symm
  simp only [List.map_cons,q8,Vq,h1]
  exact KW enc nm l (i+1) fun q hq=>h q (List.mem_cons_of_mem _ hq)
theorem aac (d n:Nat) (objs:List Obj) (l:List (List UInt8×aC)):(l.map pu).map (PV.bJ (eY d n objs))=l.map pu:=by
 rw [List.map_map]
 refine List.map_congr_left fun x _=>?_
 have h:eY d n objs (aA x.2)=aA x.2:=by cases d <;> rfl
 show PV.agg [eY d n objs (.str x.1),eY d n objs (aA x.2)]=pu x
 rw [h]
 cases d <;> rfl
theorem KX (l:List (List UInt8×aC)) (v:Nat):eX [{ Uf l with ver:=v }]:=by
 intro o ho x hx p hp
 simp only [List.mem_singleton] at ho
 subst ho
 simp only [Uf,List.mem_map] at hx
 obtain ⟨n,_,rfl⟩:=hx
 simp only [pu,PV.cells,List.mem_cons,List.not_mem_nil,or_false] at hp
 rcases hp with rfl | rfl <;> rfl
theorem Xy (ps:List aC){i:Nat}{y:dY}{q:aC}(h:ps[i]?=some (y::q)):ps.flatten[(ps.take i).flatten.length]?=some y:=by
 have e:ps.flatten=(ps.take i).flatten++(ps.drop i).flatten:=by rw [← List.flatten_append,List.take_append_drop]
 have hl:=(List.getElem?_eq_some_iff.1 h).1
 have hd:ps.drop i=(y::q)::ps.drop (i+1):=by
  rw [List.drop_eq_getElem_cons hl]
  rw [List.getElem?_eq_getElem hl] at h
  rw [Option.some.inj h]
 rw [e,List.getElem?_append_right (Nat.le_refl _),Nat.sub_self,hd]
 rfl
theorem JU {α β:Type}{a:List α}{b:List β}{i:Nat}{x:α}{y:β}(h1:a[i]?=some x) (h2:b[i]?=some y):(a.zip b).take (i+1)=(a.zip b).take i++[(x,y)]:=by
 have:(a.zip b)[i]?=some (x,y):=by rw [List.getElem?_zip_eq_some];exact ⟨h1,h2⟩
 rw [List.take_add_one,this];rfl
theorem Ny (t:aC) (ho:Y.One t) (hl:t.length≤100000) (hk:Y.kindOf t=2) (hn:(gP t).Nodup):ai Tryz.prog 90 [aA t] [] (.lD 0 0) [{ Uf (dD t) with ver:=0 }]:=by
 refine JR.adr (T:=aR Tryz.prog [(52,kJ)]) 0 hD (aj (af si ah)) a_ fun Q hQ=>?_
 obtain ⟨n,r,ps,hv,hm,hp,hfl,hps,hpo,hmn,GY⟩:=qI t ho
 have hn2:n.kind=2:=by rw [hv] at hk;exact hk
 have hpt:aG t=ps.map Y.j4:=by rw [hv,aG,if_neg (by omega),hpo]
 have hnt:gP t=ps.map Y.nameOf:=by rw [hv,gP,if_pos hn2,hpo]
 (conv=>arg 4;cbv);simp(maxSteps:=400000)only[↓av,ax,BEq.rfl,reduceIte,reduceCtorEq,Nat.reduceLT,Nat.reduceAdd,Nat.reduceSub,Nat.reduceMul,Nat.reduceBEq,Nat.reduceLeDiff,Int.reduceToNat,Int.reduceLE,hQ,↓WO,kY,↓kJ]
 refine ⟨ho,by omega,?_⟩
 have hpl:(aG t).length=ps.length:=by rw [hpt,List.length_map]
 refine aH (fun m S=>∃ i:Nat,i+m=ps.length∧S=⟨dI 28 [(0,aA t),(3,.lD 0 1),(4,.int .i64 (1+(ps.take i).flatten.length:Nat)),(9,dm (aG t)),(10,.int .i64 (aG t).length),(11,.int .i64 i)],[Uf ((dD t).take i)]⟩) ps.length ⟨0,by omega,?_⟩ ?_
 · simp only [bW,keepR,Nat.reduceAdd,nu,Nat.reduceBEq,List.map_nil]
   rfl
 rintro m S ⟨i,him,rfl⟩
 rcases Nat.lt_or_ge i ps.length with h | h
 · have hlt:((i:Int)<((aG t).length:Int))=True:=eq_true (by omega)
   have zi:(0≤(i:Int))=True:=eq_true (by omega)
   have hgi:=List.getElem?_eq_getElem h
   have hpe:=(hps _ (List.getElem_mem h)).ne
   have adt:=Cz ps hgi
   have htf:=Nv ps hgi
   generalize ps[i]=p at hgi hpe adt htf
   obtain ⟨y,q,rfl⟩:∃ y q,p=y::q:=by
    cases p with
    | nil=>exact absurd rfl hpe
    | cons y q=>exact ⟨y,q,rfl⟩
   have hgp:(aG t)[i]?=some (Y.j4 (y::q)):=by rw [hpt,List.getElem?_map,hgi];rfl
   have hgn:(gP t)[i]?=some y.name:=by rw [hnt,List.getElem?_map,hgi];rfl
   have hgt:t[1+(ps.take i).flatten.length]?=some y:=by
    rw [hv,Nat.add_comm,List.getElem?_cons_succ,← hfl]
    exact Xy ps hgi
   have hat:(((1+(ps.take i).flatten.length:Nat):Int)<(t.length:Int))=True:=eq_true (by have:=(List.getElem?_eq_some_iff.1 hgt).1;omega)
   have zat:(0≤((1+(ps.take i).flatten.length:Nat):Int))=True:=eq_true (by omega)
   have hmf:q8 .str (.str y.name) (((dD t).take i).map pu) 0=some none:=KW aA y.name _ 0 fun p hp e=>by
    obtain ⟨j,hj⟩:=List.mem_iff_getElem?.1 hp
    rw [List.getElem?_take] at hj
    split at hj
    · rename_i hji
      have hz:=hj
      unfold dD at hz
      rw [List.getElem?_zip_eq_some] at hz
      have h1:=hz.1
      rw [e,← hgn] at h1
      have hjl:=(List.getElem?_eq_some_iff.1 hz.1).1
      have:=(List.getElem?_inj hjl hn).1 h1
      omega
    · cases hj
   unfold Uf
   simp(maxSteps:=400000)only[↓av,ax,BEq.rfl,reduceIte,reduceCtorEq,Nat.reduceLT,Nat.reduceAdd,Nat.reduceSub,Nat.reduceMul,Nat.reduceBEq,Nat.reduceLeDiff,Int.reduceToNat,Int.reduceLE,hQ,hlt,zi,hgp,hat,zat,hgt,↓WO,gH,Int.toNat_natCast]
   have ht2:=JU hgn hgp
   have afF:ps.flatten.length≤100000:=by rw [hfl];rw [hv] at hl;simp only [List.length_cons] at hl;omega
   have hcl:(Y.j4 (y::q)).length=(y::q).length:=Y.gZ _
   rw [hcl]
   generalize hyl:(y::q).length=yl at adt htf
   have afT:=Nat.le_trans adt afF
   have hrl:r.length+1=t.length:=by rw [hv];rfl
   refine ⟨.inl trivial,none,hmf,⟨by omega,by omega⟩,⟨by omega,by omega⟩,m-1,by omega,i+1,by omega,?_⟩
   have afG:(((1+(ps.take i).flatten.length:Nat):Int)+(yl:Int))=((1+(ps.take (i+1)).flatten.length:Nat):Int):=by rw [htf,List.length_append,hyl];omega
   rw [afG]
   show _=(⟨_,[⟨MT,2,(((dD t).take (i+1)).map pu),true,1⟩]⟩:St)
   rw [show (dD t).take (i+1)=(dD t).take i++[(y.name,Y.j4 (y::q))] from ht2]
   simp only [Gj,List.map_append,List.map_cons,List.map_nil,List.length_append]
   rfl
 · have hlt:((i:Int)<((aG t).length:Int))=False:=eq_false (by omega)
   have hi:(dD t).take i=dD t:=List.take_of_length_le (by simp only [dD,List.length_zip,hpl];omega)
   unfold Uf
   simp(maxSteps:=400000)only[↓av,ax,BEq.rfl,reduceIte,reduceCtorEq,Nat.reduceLT,Nat.reduceAdd,Nat.reduceSub,Nat.reduceMul,Nat.reduceBEq,Nat.reduceLeDiff,Int.reduceToNat,Int.reduceLE,hQ,hlt]
   rw [hi]
   exact aeQ (k:=0) (ver:=1) rfl rfl rfl rfl (by simp only [fE,aac];rfl) (KX _ 0)
end Lp
namespace Lp
open Go
variable {pk:List UInt8→Bool}{qM:List UInt8→List Stp}
theorem Xz {m:Int}{l:List fQ}(h:(kS m l).2=true):∃ c,cO m l c=true:=by
 unfold kS at h
 split at h
 · rename_i c hc;exact ⟨c,by simpa using List.find?_some hc⟩
 · cases h
theorem aad {t:aC}{A:List fQ}{x:fQ}(hx:x ∈ A) (hn:0≤x.n∧x.n≤5):rH t A x=false:=by
 cases h:rH t A x with
 | false=>rfl
 | true=>
  obtain ⟨c,hc⟩:=Xz h
  simp only [cO,Bool.and_eq_true,List.all_eq_true] at hc
  have h1:=hc.2 x (by simp [hx])
  have h2:=hc.2 (EK x) (by simp)
  have h3:jR (EK x) c=!jR x c:=Vd x.n _ hn.1 hn.2
  rw [h3,h1] at h2;cases h2
theorem QU {t u:aC}(hm:∀ k:Nat,k<5→jy (fJ t) k=true→jy (fJ u) k=true) (ha:∀ x ∈ bT u,x ∈ bT t∧0≤x.n∧x.n≤5):um t u=true:=by
 have h1:(List.range 5).any (sj t u)=false:=by
  rw [List.any_eq_false]
  intro k hk
  have hk5:k<5:=by simpa using hk
  unfold sj
  cases h:jy (fJ t) k with
  | false=>simp
  | true=>rw [hm k hk5 h];simp
 have h2:(bT u).any (rH t (bT t))=false:=by
  rw [List.any_eq_false]
  intro x hx
  rw [aad (ha x hx).1 (ha x hx).2];simp
 unfold um
 rw [h1,h2];rfl
theorem uG.QV {t:aC}(h:uG pk qM t):∀ x ∈ bT t,0≤x.n∧x.n≤5∧gG x=true:=by
 intro x hx
 cases t with
 | nil=>cases hx
 | cons n r=>
  by_cases hk:n.kind=1
  · obtain ⟨h1,_,h3,_⟩:=F7 h hk
    rw [h1] at hx
    obtain ⟨y,hy,rfl⟩:=List.mem_map.1 hx
    have:=(h3 y hy).1
    have h4:=this
    simp only [gG,Bool.and_eq_true,decide_eq_true_eq] at h4
    exact ⟨h4.1.1,h4.1.2,this⟩
  · simp [bT,hk] at hx
theorem uG.kinds {t:aC}(h:uG pk qM t):0≤Y.kindOf t∧Y.kindOf t≤8:=by
 cases t with
 | nil=>exact absurd rfl h.one.ne
 | cons n r=>
  have h9:n.kind≠9:=h.kind
  have h1:=h.parts.1
  show 0≤n.kind∧n.kind≤8
  unfold bK at h1
  repeat' (split at h1;· omega)
  cases h1
theorem U7 {α:Type}:∀ (names:List (List UInt8)) (l:List α) (k:List UInt8) (v:α),names.Nodup→(k,v) ∈ names.zip l→Xq k (names.zip l)=some v
 | [],l,k,v,_,h=>by simp at h
 | n::ns,[],k,v,_,h=>by simp at h
 | n::ns,x::l,k,v,hn,h=>by
  obtain ⟨h1,h2⟩:=List.nodup_cons.1 hn
  simp only [List.zip_cons_cons,List.mem_cons,Prod.mk.injEq] at h
  simp only [List.zip_cons_cons,Xq]
  rcases h with ⟨rfl,rfl⟩ | h
  · simp
  · have:n≠k:=fun e=>h1 (by rw [e];exact (List.of_mem_zip h).1)
    rw [if_neg this]
    exact U7 ns l k v h2 h
theorem uG.abn {t:aC}(h:uG pk qM t) (hk:Y.kindOf t=2):(gP t).Nodup∧(gP t).length=(aG t).length:=by
 cases t with
 | nil=>exact absurd rfl h.one.ne
 | cons n r=>
  obtain ⟨h1,_,_⟩:=qU.1 (h.names hk).1
  exact ⟨F3 (h.names hk).2,h1⟩
theorem uG.adu {t:aC}(h:uG pk qM t) (hk:Y.kindOf t=2):fJ t=0∨fJ t=1:=by
 cases t with
 | nil=>exact absurd rfl h.one.ne
 | cons n r=>
  have hk':n.kind=2:=hk
  have h1:=h.parts.1
  simp [bK,hk'] at h1
  exact h1.1.1.2
theorem Nz {t u:aC}(S:aC→aC→Bool) (ht:(gP t).Nodup) (hf:∀ nm q,(nm,q) ∈ dD u→∃ x,(nm,x) ∈ dD t∧S x q=true) (hm:fJ u=1∨fJ t=0∧vU t=vU u):wm S t u=true:=by
 have h1:(dD u).all (vG S t)=true:=by
  rw [List.all_eq_true]
  rintro ⟨nm,q⟩ hp
  obtain ⟨x,h1,h2⟩:=hf nm q hp
  unfold vG
  rw [show Xq (nm,q).1 (dD t)=some x from U7 _ _ _ _ ht h1]
  exact h2
 unfold wm
 rw [h1,Bool.true_and,Bool.or_eq_true,Bool.and_eq_true]
 simpa using hm
theorem IB {S:aC→aC→Bool}:∀ (l:List aC),(∀ x ∈ l,S x x=true)→fZ S l l=true
 | [],_=>rfl
 | x::l,h=>by
  rw [fZ,h x (List.mem_cons_self ..),Bool.true_and]
  exact IB l fun y hy=>h y (List.mem_cons_of_mem _ hy)
theorem CJ:∀ (f:Nat) (t:aC),t.length≤f→uG pk qM t→f_ t t=true
 | 0,t,h,hr=>by have:=hr.one.ne;cases t <;> simp at h this
 | f+1,[],_,hr=>absurd rfl hr.one.ne
 | f+1,n::r,h,hr=>by
  simp only [List.length_cons] at h
  have ih:∀ x ∈ aG (n::r),f_ x x=true:=fun x hx=>by
   have:=hr.part x hx
   exact CJ f x (by omega) this.1
  obtain ⟨k0,k8⟩:=hr.kinds
  rw [Cv _ hr]
  generalize hk:Y.kindOf (n::r)=k at *
  unfold ng
  rw [hk]
  by_cases h1:k=1
  · rw [if_pos ⟨h1,h1⟩]
    exact QU (fun _ _ h=>h) fun x hx=>⟨hx,(hr.QV x hx).1,(hr.QV x hx).2.1⟩
  rw [if_neg (by omega)]
  by_cases h2:k=2
  · rw [if_pos ⟨h2,h2⟩]
    obtain ⟨f1,f2⟩:=hr.abn (by omega)
    refine Nz _ f1 (fun nm q hp=>⟨q,hp,ih q (List.of_mem_zip hp).2⟩) ?_
    rcases hr.adu (by omega) with h | h
    · exact .inr ⟨h,rfl⟩
    · exact .inl h
  rw [if_neg (by omega),if_neg (by omega),if_neg (by omega)]
  by_cases h5:k=5
  · rw [if_pos ⟨.inr (.inr h5),h5⟩]
    obtain ⟨p,hp⟩:=hr.xI (by omega)
    have:=ih p (by rw [hp];simp)
    simp [QI,y0,hp,this]
  rw [if_neg (by omega),if_neg (by omega),if_neg (by omega)]
  by_cases h0:k=0
  · rw [if_pos h0]
  · rw [if_neg h0,IB _ ih];simp
theorem uG.CJ {t:aC}(h:uG pk qM t):f_ t t=true:=Lp.CJ t.length t (Nat.le_refl _) h
structure afH (a:fQ) (t u:aC) (s:Stp) (p:List Stp) (A:List aC) (q:aC) (B:List aC) (j:Nat):Prop where
 kind:Y.kindOf t=2∧Y.kindOf u=2
 part:s.part=false
 aG:aG t=A++q::B
 afI:Lp.aG u=A++Xl q j a::B
 afJ:gP u=gP t
 name:(gP t)[A.length]?=some s.name
 leaf:jc p q=some j
 jlt:j<q.length
 rest:fJ u=fJ t∧vU u=vU t∧C8 u=C8 t
end Lp
namespace Lp
open Go Go.Proofs
open Nat (reduceAdd reduceLeDiff reduceMul reduceSub)
open Int (reduceLE reduceToNat)
def rJ (l:List (List UInt8×aC)):Obj:=⟨MT,2,l.map pu,true,0⟩
def CK:dF:=fun args objs K=>match args with
 | [a]=>fB aA a (HK.mk:HK fun t=>Y.One t∧t.length≤100000∧Y.kindOf t=2∧(gP t).Nodup∧K (.lD objs.length 0) (objs++[rJ (dD t)]) 2)
 | _=>False
theorem QW:aB Tryz.prog 90 CK:=by
 intro args objs K h
 unfold CK at h
 split at h
 · obtain ⟨t,rfl,h1,h2,h3,h4,hk⟩:=h
   have h:=mH.made (P:=Tryz.prog) (objs:=objs) _ _ rfl (KX (dD t) 0) (Ny t h1 h2 h3 h4)
   exact ⟨_,_,_,h,by simpa [PV.shift,PV.qj,rJ,Uf] using hk⟩
 · exact h.elim
theorem QX (nm:List UInt8):∀ (l:List (List UInt8×aC)) (i:Nat),∃ j,q8 .str (.str nm) (l.map pu) i=some ((Xq nm l).map fun x=>(j,aA x))
 | [],i=>⟨0,rfl⟩
 | (k,v)::l,i=>by
  by_cases h:k=nm
  · subst h
    refine ⟨i,?_⟩
    simp [q8,pu,Vq,Xq]
  · obtain ⟨j,hj⟩:=QX nm l (i+1)
    have h1:decide (nm=k)=false:=decide_eq_false fun e=>h e.symm
    exact ⟨j,by simp only [List.map_cons,q8,pu,Vq,h1,Xq,if_neg h];exact hj⟩
theorem adv {l:List (List UInt8×aC)}{i:Nat}{key v:PV}(h:(l.map pu)[i]?=some (.agg [key,v])):∃ p,l[i]?=some p∧key=.str p.1∧v=aA p.2:=by
 rw [List.getElem?_map] at h
 cases hp:l[i]? with
 | none=>rw [hp] at h;cases h
 | some p=>
  rw [hp] at h
  simp only [Option.map_some,Option.some.injEq,pu,PV.agg.injEq,List.cons.injEq,and_true] at h
  exact ⟨p,rfl,h.1.symm,h.2.symm⟩
theorem abo {nm:List UInt8}{t x:aC}(h:Xq nm (dD t)=some x):x ∈ aG t:=by
 have:∀ (l:List (List UInt8×aC)),Xq nm l=some x→∃ k,(k,x) ∈ l:=by
  intro l
  induction l with
  | nil=>intro h;cases h
  | cons p l ih=>
   intro h
   obtain ⟨k,v⟩:=p
   rw [Xq] at h
   split at h
   · cases h;exact ⟨k,List.mem_cons_self ..⟩
   · obtain ⟨k',hk⟩:=ih h;exact ⟨k',List.mem_cons_of_mem _ hk⟩
 obtain ⟨k,hk⟩:=this _ h
 exact (List.of_mem_zip hk).2
structure fK (t:aC):Prop where
 rt:uG bq d_ t
 len:t.length≤50000
 cs:∀ n ∈ t,n.c.s.length≤500000
theorem fK.part {t p:aC}(h:fK t) (hp:p ∈ aG t):fK p∧p.length<t.length:=by
 cases t with
 | nil=>cases hp
 | cons n r=>
  have h1:=h.rt.part p hp
  have hl:=h.len
  simp only [List.length_cons] at hl ⊢
  refine ⟨⟨h1.1,by omega,fun m hm=>?_⟩,by omega⟩
  by_cases hk:n.kind=1
  · simp only [aG,hk,if_true] at hp;cases hp
  · simp only [aG,hk,if_false] at hp
    obtain ⟨_,_,ps,h3,h4,_⟩:=h.rt.parts
    rw [iF h3] at hp
    obtain ⟨q,hq,rfl⟩:=List.mem_map.1 hp
    have hqm:∀ y ∈ q,y ∈ n::r:=fun y hy=>List.mem_cons_of_mem _ (by rw [← h4];exact List.mem_flatten.2 ⟨q,hq,hy⟩)
    cases q with
    | nil=>cases hm
    | cons y q=>
     rcases List.mem_cons.1 hm with rfl | hm
     · exact h.cs y (hqm y (List.mem_cons_self ..))
     · exact h.cs m (hqm m (List.mem_cons_of_mem _ hm))
def dM (k:Nat):dF:=fun args objs K=>match args with
 | [a,b]=>fB aA a (HK.mk:HK fun t=>fB aA b (HK.mk:HK fun u=>fK t∧fK u∧u.length<k∧t.length+2*u.length≤50000∧K (.bool (f_ t u)) objs 0))
 | _=>False
theorem JV (k:Nat) (hS:aB Tryz.prog 20 (dM k)) (t u:aC) (ht:fK t) (hu:fK u) (hk:u.length≤k) (hl:t.length+2*u.length≤50000) (kt:Y.kindOf t=2) (ku:Y.kindOf u=2) :
  ai Tryz.prog 58 [aA t,aA u] [] (.bool (wm f_ t u)) []:=by
 refine Fg.bg (T:=aR Tryz.prog [(90,CK),(20,dM k)]) 0 hD (aj (af QW (af hS ah))) a_ (by decide) fun Q hQ=>?_
 obtain ⟨n,hn,hmn,hmy⟩:∃ n,t[0]?=some n∧n.n=fJ t∧n.many=vU t:=by
  cases t with
  | nil=>exact absurd rfl ht.rt.one.ne
  | cons n r=>exact ⟨n,rfl,rfl,rfl⟩
 obtain ⟨n',hn',hmn',hmy'⟩:∃ n,u[0]?=some n∧n.n=fJ u∧n.many=vU u:=by
  cases u with
  | nil=>exact absurd rfl hu.rt.one.ne
  | cons n r=>exact ⟨n,rfl,rfl,rfl⟩
 obtain ⟨a1,a2⟩:=ht.rt.abn kt
 obtain ⟨b1,b2⟩:=hu.rt.abn ku
 have htl:=ht.len
 have hul:=hu.len
 have r0:∀ l,(rJ l).live=true∧(rJ l).ver=0∧(rJ l).sz=2∧(rJ l).xs=l.map pu:=fun _=>⟨rfl,rfl,rfl,rfl⟩
 (conv=>arg 4;cbv);simp(maxSteps:=400000)only[↓av,ax,BEq.rfl,reduceIte,reduceCtorEq,Nat.reduceLT,reduceAdd,reduceSub,reduceMul,Nat.reduceBEq,reduceLeDiff,reduceToNat,reduceLE,hQ,↓CK,↓YM,uM,r0]
 refine ⟨ht.rt.one,by omega,kt,a1,hu.rt.one,by omega,ku,b1,?_⟩
 refine aH (fun m S=>∃ seen rem:List Nat,rem.length=m∧(∀ j,j<(dD u).length→j ∈ seen∨j ∈ rem)∧(∀ j ∈ seen,∀ p,(dD u)[j]?=some p→vG f_ t p=true)∧
  S=⟨dI 57 [(0,aA t),(1,aA u),(5,.lD 0 0),(14,.lD 2 1)],[rJ (dD t),rJ (dD u),wu 1 0 (dD u).length seen 1]⟩) (dD u).length ⟨[],List.range (dD u).length,by simp,fun j hj=>.inr (List.mem_range.2 hj),fun j hj=>absurd hj List.not_mem_nil,?_⟩ ?_
 · simp only [bW,keepR,reduceAdd,nu,Nat.reduceBEq,List.map_nil]
 rintro m S ⟨seen,rem,hrm,hsr,hgood,rfl⟩
 have afM:∀ v,vG f_ t v=true∨vG f_ t v=false:=fun v=>by cases vG f_ t v <;> simp
 simp(maxSteps:=400000)only[↓av,ax,BEq.rfl,reduceIte,reduceCtorEq,Nat.reduceLT,reduceAdd,reduceSub,reduceMul,Nat.reduceBEq,reduceLeDiff,reduceToNat,reduceLE,hQ,↓YM]
 refine ⟨1,0,_,seen,_,rfl,rfl,rfl,rfl,rfl,by simp [rJ],fun hall=>?_,fun i key v hns hx=>?_⟩
 · have hF:(dD u).all (vG f_ t)=true:=by
    rw [List.all_eq_true]
    intro p hp
    obtain ⟨j,hj⟩:=List.mem_iff_getElem?.1 hp
    have hjl:=(List.getElem?_eq_some_iff.1 hj).1
    exact hgood j (hall j hjl) p hj
   have hO:wm f_ t u=(decide (fJ u=1) || decide (fJ t=0) && decide (vU t=vU u)):=by rw [wm,hF,Bool.true_and]
   by_cases h1:fJ u=1
   · have hr:wm f_ t u=true:=by rw [hO];simp [h1]
     have h1':=eq_true h1
     simp(maxSteps:=400000)only[↓av,ax,BEq.rfl,reduceIte,reduceCtorEq,Nat.reduceLT,reduceAdd,reduceSub,reduceMul,Nat.reduceBEq,reduceLeDiff,reduceToNat,reduceLE,hQ,bA,hn,hn',hmn,hmn',hmy,hmy',hr,h1']
   · have h1':=eq_false h1
     by_cases h2:fJ t=0
     · have h2':=eq_true h2
       have hr:wm f_ t u=decide (vU t=vU u):=by rw [hO];simp [h1,h2]
       simp(maxSteps:=400000)only[↓av,ax,BEq.rfl,reduceIte,reduceCtorEq,Nat.reduceLT,reduceAdd,reduceSub,reduceMul,Nat.reduceBEq,reduceLeDiff,reduceToNat,reduceLE,hQ,bA,hn,hn',hmn,hmn',hmy,hmy',hr,h1',h2']
     · have h2':=eq_false h2
       have hr:wm f_ t u=false:=by rw [hO];simp [h1,h2]
       simp(maxSteps:=400000)only[↓av,ax,BEq.rfl,reduceIte,reduceCtorEq,Nat.reduceLT,reduceAdd,reduceSub,reduceMul,Nat.reduceBEq,reduceLeDiff,reduceToNat,reduceLE,hQ,bA,hn,hn',hmn,hmn',hmy,hmy',hr,h1',h2']
 · have hx':((dD u).map pu)[i]?=some (.agg [key,v]):=hx
   obtain ⟨p,hp,rfl,rfl⟩:=adv hx'
   obtain ⟨j,hj⟩:=QX p.1 (dD t) 0
   have hpm:p ∈ dD u:=List.mem_of_getElem? hp
   have he:∀ K,uN (.lD 2 1) [rJ (dD t),rJ (dD u),wu 1 0 (dD u).length (seen++[i]) 1] K=K (.b_ [.str p.1,aA p.2]) [rJ (dD t),rJ (dD u),wu 1 0 (dD u).length (seen++[i]) 1] 1:=fun K=>ads (mo:=rJ (dD u)) rfl rfl rfl rfl rfl (by show ((dD u).map pu).length=_;rw [List.length_map]) hx' K
   cases hat:Xq p.1 (dD t) with
   | none=>
    simp only [hat,Option.map_none] at hj
    have hr:wm f_ t u=false:=by
     have:(dD u).all (vG f_ t)=false:=by
      rw [List.all_eq_false]
      exact ⟨p,hpm,by simp [vG,hat]⟩
     rw [wm,this,Bool.false_and]
    simp(maxSteps:=400000)only[↓av,ax,BEq.rfl,reduceIte,reduceCtorEq,Nat.reduceLT,reduceAdd,reduceSub,reduceMul,Nat.reduceBEq,reduceLeDiff,reduceToNat,reduceLE,hQ,bA,↓YM,↓he,↓WO,lG,r0,hj,SY,true_or]
    exact hr
   | some x=>
    simp only [hat,Option.map_some] at hj
    have hxm:x ∈ aG t:=abo hat
    have hxo:=ht.part hxm
    have hpo:=hu.part (List.of_mem_zip (a:=p.1) (b:=p.2) hpm).2
    have hxl:p.2.length<k:=by omega
    have hsum:x.length+2*p.2.length≤50000:=by omega
    cases hsb:f_ x p.2 with
    | false=>
     have hr:wm f_ t u=false:=by
      have:(dD u).all (vG f_ t)=false:=by
       rw [List.all_eq_false]
       exact ⟨p,hpm,by simp [vG,hat,hsb]⟩
      rw [wm,this,Bool.false_and]
     simp(maxSteps:=400000)only[↓av,ax,BEq.rfl,reduceIte,reduceCtorEq,Nat.reduceLT,reduceAdd,reduceSub,reduceMul,Nat.reduceBEq,reduceLeDiff,reduceToNat,reduceLE,hQ,bA,↓YM,↓he,↓WO,lG,r0,hj,SY,true_or,↓dM,hsb]
     exact ⟨hxo.1,hpo.1,hxl,hsum,hr⟩
    | true=>
     have hfs:vG f_ t p=true:=by simp [vG,hat,hsb]
     simp(maxSteps:=400000)only[↓av,ax,BEq.rfl,reduceIte,reduceCtorEq,Nat.reduceLT,reduceAdd,reduceSub,reduceMul,Nat.reduceBEq,reduceLeDiff,reduceToNat,reduceLE,hQ,bA,↓YM,↓he,↓WO,lG,r0,hj,SY,true_or,↓dM,hsb]
     have hil:=(List.getElem?_eq_some_iff.1 hp).1
     have him:i ∈ rem:=(hsr i hil).resolve_left hns
     have hel:=List.length_erase_of_mem him
     have hpos:=List.length_pos_of_mem him
     refine ⟨hxo.1,hpo.1,hxl,hsum,m-1,by omega,seen++[i],rem.erase i,by omega,fun j hj=>?_,fun j hj q hq=>?_,rfl⟩
     · rcases hsr j hj with h | h
       · exact .inl (List.mem_append_left _ h)
       · by_cases e:j=i
         · exact .inl (by rw [e];simp)
         · exact .inr ((List.mem_erase_of_ne e).2 h)
     · rcases List.mem_append.1 hj with h | h
       · exact hgood j h q hq
       · rw [List.mem_singleton.1 h,hp] at hq
         cases hq
         exact hfs
end Lp
namespace Lp
open Go Go.Proofs
open Nat (lt_or_ge reduceAdd reduceLeDiff reduceMul reduceSub)
open Int (reduceLE reduceToNat)
def sw (k:Nat) (ys l:List aC):Prop:=∃ y,ys[0]?=some y∧fK y∧y.length<k∧∀ p ∈ l,fK p∧p.length+2*y.length≤50000
def oP (ys:List aC) (p:aC):Bool:=Bool.not (f_ p (ys.headD []))
theorem aae {ys:List aC}{y:aC}(h:ys[0]?=some y):ys.headD []=y:=by
 cases ys with
 | nil=>cases h
 | cons a l=>simpa using h
theorem Ug (k:Nat) (hS:aB Tryz.prog 20 (dM k)) (ys:List aC) (p:aC) (h:sw k ys [p]):ai Tryz.prog 55 [aA p,.addr (dm ys)] [] (.bool (oP ys p)) []:=by
 refine Iz.bg (T:=aR Tryz.prog [(20,dM k)]) 0 hD (aj (af hS ah)) a_ (by decide) fun Q hQ=>?_
 obtain ⟨y,hy,hyo,hyk,hp⟩:=h
 obtain ⟨h1,h2⟩:=hp p (List.mem_cons_self ..)
 have hlt:0<ys.length:=(List.getElem?_eq_some_iff.1 hy).1
 have hr:oP ys p=Bool.not (f_ p y):=by rw [oP,aae hy]
 (conv=>arg 4;cbv);simp(maxSteps:=400000)only[↓av,ax,BEq.rfl,reduceIte,reduceCtorEq,Nat.reduceLT,reduceAdd,reduceSub,reduceMul,Nat.reduceBEq,reduceLeDiff,reduceToNat,reduceLE,hQ,hy,↓dM,hr]
 exact ⟨h1,hyo,hyk,h2⟩
theorem DZ {S:aC→aC→Bool}:∀ {xs ys:List aC},xs.length≠ys.length→fZ S xs ys=false
 | [],[],h=>absurd rfl h
 | [],_::_,_=>rfl
 | _::_,[],_=>rfl
 | x::xs,y::ys,h=>by rw [fZ,DZ (by simpa using h),Bool.and_false]
def xJ (k:Nat) (ys:List aC):dF:=fun args objs K=>match args with
 | [a,b]=>fB aA a (HK.mk:HK fun p=>b=.addr (dm ys)∧sw k ys [p]∧K (.bool (oP ys p)) objs 0)
 | _=>False
theorem QY (k:Nat) (hS:aB Tryz.prog 20 (dM k)) (ys:List aC):aB Tryz.prog 55 (xJ k ys):=by
 intro args objs K h
 unfold xJ at h
 split at h
 · obtain ⟨p,rfl,rfl,h1,hk⟩:=h
   exact ⟨_,_,_,.pure _ rfl (Ug k hS ys p h1),hk⟩
 · exact h.elim
theorem QZ (k:Nat) (hS:aB Tryz.prog 20 (dM k)) (ys l:List aC) (hl:l.length≤100000) (ho:sw k ys l) :
  ai Tryz.prog 83 [dm l,.fn 55 [] [.addr (dm ys)]] [] (.int .i64 (idxOf (oP ys) l)) []:=by
 refine j_.bg (T:=aR Tryz.prog [(55,xJ k ys)]) 0 hD (aj (af (QY k hS ys) ah)) a_ (by decide) fun Q hQ=>?_
 (conv=>arg 4;cbv);simp(maxSteps:=400000)only[↓av,ax,BEq.rfl,reduceIte,reduceCtorEq,Nat.reduceLT,reduceAdd,reduceSub,reduceMul,Nat.reduceBEq,reduceLeDiff,reduceToNat,reduceLE,hQ]
 refine aH (fun m S=>∃ i:Nat,i+m=l.length∧(∀ (j:Nat) y,j<i→l[j]?=some y→oP ys y=false)∧S=⟨dI 19 [(0,dm l),(1,.fn 55 [] [.addr (dm ys)]),(7,.int .i64 l.length),(8,.int .i64 i)],[]⟩) l.length ⟨0,by omega,fun j y h=>absurd h (Nat.not_lt_zero j),?_⟩ ?_
 · simp only [bW,keepR,reduceAdd,nu,Nat.reduceBEq,List.map_nil]
   rfl
 rintro m S ⟨i,him,hb,rfl⟩
 rcases lt_or_ge i l.length with h | h
 rotate_left 1
 · have hlt:((i:Int)<(l.length:Int))=False:=eq_false (by omega)
   have hr:=u6 (l:=l) fun j y hj=>hb j y (by have:=(List.getElem?_eq_some_iff.1 hj).1;omega) hj
   simp(maxSteps:=400000)only[↓av,ax,BEq.rfl,reduceIte,reduceCtorEq,Nat.reduceLT,reduceAdd,reduceSub,reduceMul,Nat.reduceBEq,reduceLeDiff,reduceToNat,reduceLE,hQ,hlt,hr]
 have hlt:((i:Int)<(l.length:Int))=True:=eq_true (by omega)
 have zi:(0≤(i:Int))=True:=eq_true (by omega)
 have hgi:=List.getElem?_eq_getElem h
 have hao:sw k ys [l[i]]:=by
  obtain ⟨y,h1,h2,h3,h4⟩:=ho
  exact ⟨y,h1,h2,h3,fun p hp=>by rw [List.mem_singleton.1 hp];exact h4 _ (List.getElem_mem h)⟩
 generalize l[i]=o at hgi hao
 cases hp:oP ys o
 rotate_left 1
 · have hr:idxOf (oP ys) l=i:=idxOf_hit hgi hp hb
   simp(maxSteps:=400000)only[↓av,ax,BEq.rfl,reduceIte,reduceCtorEq,Nat.reduceLT,reduceAdd,reduceSub,reduceMul,Nat.reduceBEq,reduceLeDiff,reduceToNat,reduceLE,hQ,hlt,zi,hgi,↓xJ,hp,hr]
   exact hao
 · simp(maxSteps:=400000)only[↓av,ax,BEq.rfl,reduceIte,reduceCtorEq,Nat.reduceLT,reduceAdd,reduceSub,reduceMul,Nat.reduceBEq,reduceLeDiff,reduceToNat,reduceLE,hQ,hlt,zi,hgi,↓xJ,hp]
   refine ⟨hao,⟨by omega,by omega⟩,m-1,by omega,i+1,by omega,fun j y hj hy=>?_,rfl⟩
   rcases lt_or_ge j i with g | g
   · exact hb j y g hy
   · have:j=i:=by omega
     subst this
     rw [hgi] at hy;cases hy
     exact hp
def yF (k:Nat) (ys:List aC):dF:=fun args objs K=>match args with
 | [a,b]=>fB dm a (HK.mk:HK fun l=>b=.fn 55 [] [.addr (dm ys)]∧l.length≤100000∧sw k ys l∧K (.int .i64 (idxOf (oP ys) l)) objs 0)
 | _=>False
theorem NA (k:Nat) (hS:aB Tryz.prog 20 (dM k)) (ys:List aC):aB Tryz.prog 83 (yF k ys):=by
 intro args objs K h
 unfold yF at h
 split at h
 · obtain ⟨l,rfl,rfl,h1,h2,hk⟩:=h
   exact ⟨_,_,_,.pure _ rfl (QZ k hS ys l h1 h2),hk⟩
 · exact h.elim
theorem Q0 (k:Nat) (hS:aB Tryz.prog 20 (dM k)) (ys l:List aC) (hl:l.length≤100000) (ho:sw k ys l) :
  ai Tryz.prog 54 [dm l,.fn 55 [] [.addr (dm ys)]] [] (.bool (l.any (oP ys))) []:=by
 refine jL.bg (T:=aR Tryz.prog [(83,yF k ys)]) 0 hD (aj (af (NA k hS ys) ah)) a_ (by decide) fun Q hQ=>?_
 (conv=>arg 4;cbv);simp(maxSteps:=400000)only[↓av,ax,BEq.rfl,reduceIte,reduceCtorEq,Nat.reduceLT,reduceAdd,reduceSub,reduceMul,Nat.reduceBEq,reduceLeDiff,reduceToNat,reduceLE,hQ,↓yF,yx]
 exact ⟨hl,ho⟩
def yG (k:Nat) (ys:List aC):dF:=fun args objs K=>match args with
 | [a,b]=>fB dm a (HK.mk:HK fun l=>b=.fn 55 [] [.addr (dm ys)]∧l.length≤100000∧sw k ys l∧K (.bool (l.any (oP ys))) objs 0)
 | _=>False
theorem NC (k:Nat) (hS:aB Tryz.prog 20 (dM k)) (ys:List aC):aB Tryz.prog 54 (yG k ys):=by
 intro args objs K h
 unfold yG at h
 split at h
 · obtain ⟨l,rfl,rfl,h1,h2,hk⟩:=h
   exact ⟨_,_,_,.pure _ rfl (Q0 k hS ys l h1 h2),hk⟩
 · exact h.elim
theorem XA (k:Nat) (hS:aB Tryz.prog 20 (dM k)) (xs ys:List aC) (hl:xs.length≤100000) (ho:sw k ys xs) :
  ai Tryz.prog 53 [.addr (dm xs),.addr (dm ys)] [] (.bool (!xs.any (oP ys))) []:=by
 refine Nt.bg (T:=aR Tryz.prog [(54,yG k ys)]) 0 hD (aj (af (NC k hS ys) ah)) a_ (by decide) fun Q hQ=>?_
 (conv=>arg 4;cbv);simp(maxSteps:=400000)only[↓av,ax,BEq.rfl,reduceIte,reduceCtorEq,Nat.reduceLT,reduceAdd,reduceSub,reduceMul,Nat.reduceBEq,reduceLeDiff,reduceToNat,reduceLE,hQ,↓yG]
 exact ⟨hl,ho⟩
theorem D5 {S:aC→aC→Bool}:∀ {a b:List aC}{c d:List aC},a.length=b.length→fZ S (a++c) (b++d)=(fZ S a b && fZ S c d)
 | [],[],_,_,_=>by simp [fZ]
 | [],_::_,_,_,h=>by simp at h
 | _::_,[],_,_,h=>by simp at h
 | x::a,y::b,_,_,h=>by
  simp only [List.cons_append,fZ,D5 (show a.length=b.length by simpa using h),Bool.and_assoc]
theorem Uh {S:aC→aC→Bool}{xs ys:List aC}{i:Nat}{x y:aC}(hx:xs[i]?=some x) (hy:ys[i]?=some y) (h:fZ S (xs.take i) (ys.take i)=true):fZ S (xs.take (i+1)) (ys.take (i+1))=S x y:=by
 have h1:=(List.getElem?_eq_some_iff.1 hx).1
 have h2:=(List.getElem?_eq_some_iff.1 hy).1
 rw [List.take_add_one,List.take_add_one,hx,hy,D5 (by simp;omega),h]
 simp [fZ]
theorem XB {S:aC→aC→Bool}{xs ys:List aC}{i:Nat}(h:fZ S (xs.take i) (ys.take i)=false):fZ S xs ys=false:=by
 by_cases hl:xs.length=ys.length
 · rw [← List.take_append_drop i xs,← List.take_append_drop i ys,D5 (by simp;omega),h,Bool.false_and]
 · exact DZ hl
theorem Ui (k:Nat) (hS:aB Tryz.prog 20 (dM k)) (xs ys:List aC) (hl:xs.length≤100000) (hl':ys.length≤100000) (ho:∀ x ∈ xs,∀ y ∈ ys,fK x∧fK y∧y.length<k∧x.length+2*y.length≤50000) :
  ai Tryz.prog 61 [dm xs,dm ys,.fn 20 [] []] [] (.bool (fZ f_ xs ys)) []:=by
 refine fA.bg (T:=aR Tryz.prog [(20,dM k)]) 0 hD (aj (af hS ah)) a_ (by decide) fun Q hQ=>?_
 by_cases hn:xs.length=ys.length
 rotate_left 1
 · have hn':((xs.length:Int)=(ys.length:Int))=False:=eq_false (by omega)
   have hr:fZ f_ xs ys=false:=DZ hn
   (conv=>arg 4;cbv);simp(maxSteps:=400000)only[↓av,ax,BEq.rfl,reduceIte,reduceCtorEq,Nat.reduceLT,reduceAdd,reduceSub,reduceMul,Nat.reduceBEq,reduceLeDiff,reduceToNat,reduceLE,hQ,hn',hr]
 have hn':((xs.length:Int)=(ys.length:Int))=True:=eq_true (by omega)
 (conv=>arg 4;cbv);simp(maxSteps:=400000)only[↓av,ax,BEq.rfl,reduceIte,reduceCtorEq,Nat.reduceLT,reduceAdd,reduceSub,reduceMul,Nat.reduceBEq,reduceLeDiff,reduceToNat,reduceLE,hQ,hn']
 refine aH (fun m S=>∃ i:Nat,i+m=xs.length∧fZ f_ (xs.take i) (ys.take i)=true∧S=⟨dI 32 [(1,dm ys),(2,.fn 20 [] []),(15,dm xs),(16,.int .i64 xs.length),(17,.int .i64 i)],[]⟩) xs.length ⟨0,by omega,rfl,?_⟩ ?_
 · simp only [bW,keepR,reduceAdd,nu,Nat.reduceBEq,List.map_nil]
   rfl
 rintro m S ⟨i,him,hb,rfl⟩
 rcases lt_or_ge i xs.length with h | h
 rotate_left 1
 · have hlt:((i:Int)<(xs.length:Int))=False:=eq_false (by omega)
   have hr:fZ f_ xs ys=true:=by
    rw [List.take_of_length_le h,List.take_of_length_le (by omega)] at hb
    exact hb
   simp(maxSteps:=400000)only[↓av,ax,BEq.rfl,reduceIte,reduceCtorEq,Nat.reduceLT,reduceAdd,reduceSub,reduceMul,Nat.reduceBEq,reduceLeDiff,reduceToNat,reduceLE,hQ,hlt,hr]
 have hlt:((i:Int)<(xs.length:Int))=True:=eq_true (by omega)
 have zi:(0≤(i:Int))=True:=eq_true (by omega)
 have hlt2:((i:Int)<(ys.length:Int))=True:=eq_true (by omega)
 have hgi:=List.getElem?_eq_getElem h
 have hgy:ys[i]?=some (ys[i]'(by omega)):=List.getElem?_eq_getElem (by omega)
 have hoo:=ho _ (List.getElem_mem h) _ (List.getElem_mem (show i<ys.length by omega))
 generalize xs[i]=x at hgi hoo
 generalize ys[i]'(by omega)=y at hgy hoo
 have hsn:=Uh (S:=f_) hgi hgy hb
 cases hp:f_ x y with
 | false=>
  have hr:fZ f_ xs ys=false:=XB (i:=i+1) (by rw [hsn,hp])
  simp(maxSteps:=400000)only[↓av,ax,BEq.rfl,reduceIte,reduceCtorEq,Nat.reduceLT,reduceAdd,reduceSub,reduceMul,Nat.reduceBEq,reduceLeDiff,reduceToNat,reduceLE,hQ,hlt,hlt2,zi,hgi,hgy,↓dM,hp,hr]
  exact hoo
 | true=>
  simp(maxSteps:=400000)only[↓av,ax,BEq.rfl,reduceIte,reduceCtorEq,Nat.reduceLT,reduceAdd,reduceSub,reduceMul,Nat.reduceBEq,reduceLeDiff,reduceToNat,reduceLE,hQ,hlt,hlt2,zi,hgi,hgy,↓dM,hp]
  exact ⟨hoo.1,hoo.2.1,hoo.2.2.1,hoo.2.2.2,⟨by omega,by omega⟩,m-1,by omega,i+1,by omega,by rw [hsn,hp],rfl⟩
def CO (k:Nat):dF:=fun args objs K=>match args with
 | [a,b,c]=>fB dm a (HK.mk:HK fun xs=>fB dm b (HK.mk:HK fun ys=>c=.fn 20 [] []∧xs.length≤100000∧ys.length≤100000∧(∀ x ∈ xs,∀ y ∈ ys,fK x∧fK y∧y.length<k∧x.length+2*y.length≤50000)∧K (.bool (fZ f_ xs ys)) objs 0))
 | _=>False
theorem Q5 (k:Nat) (hS:aB Tryz.prog 20 (dM k)):aB Tryz.prog 61 (CO k):=by
 intro args objs K h
 unfold CO at h
 split at h
 · obtain ⟨xs,rfl,ys,rfl,rfl,h1,h2,h3,hk⟩:=h
   exact ⟨_,_,_,.pure _ rfl (Ui k hS xs ys h1 h2 h3),hk⟩
 · exact h.elim
def vM (k:Nat) (xs ys:List aC):dF:=fun args objs K=>match args with
 | [a,b]=>a=.addr (dm xs)∧b=.addr (dm ys)∧xs.length≤100000∧sw k ys xs∧K (.bool (Bool.not (xs.any (oP ys)))) objs 0
 | _=>False
theorem Uj (k:Nat) (hS:aB Tryz.prog 20 (dM k)) (xs ys:List aC):aB Tryz.prog 53 (vM k xs ys):=by
 intro args objs K h
 unfold vM at h
 split at h
 · obtain ⟨rfl,rfl,h1,h2,hk⟩:=h
   exact ⟨_,_,_,.pure _ rfl (XA k hS xs ys h1 h2),hk⟩
 · exact h.elim
def ND (k:Nat):dF:=fun args objs K=>match args with
 | [a,b]=>fB aA a (HK.mk:HK fun t=>fB aA b (HK.mk:HK fun u=>fK t∧fK u∧u.length≤k∧t.length+2*u.length≤50000∧Y.kindOf t=2∧Y.kindOf u=2∧K (.bool (wm f_ t u)) objs 0))
 | _=>False
theorem XC (k:Nat) (hS:aB Tryz.prog 20 (dM k)):aB Tryz.prog 58 (ND k):=by
 intro args objs K h
 unfold ND at h
 split at h
 · obtain ⟨t,rfl,u,rfl,h1,h2,h3,h4,h5,h6,hk⟩:=h
   exact ⟨_,_,_,.pure _ rfl (JV k hS t u h1 h2 h3 h4 h5 h6),hk⟩
 · exact h.elim
theorem all_in (t u:aC):Bool.not ((aG t).any (oP (aG u)))=QI f_ t u:=by
 unfold QI oP y0
 rw [List.all_eq_not_any_not]
end Lp
namespace Lp
open Go Go.Proofs
open Nat (reduceAdd reduceLeDiff reduceMul reduceSub zero_le)
open Int (reduceLE reduceToNat)
theorem fK.aeR {t:aC}(h:fK t) (hk:Y.kindOf t=1):y7 t (bT t):=Nr h.rt hk (by have:=h.len;omega) h.cs
theorem NE (T:Know) (pt:Bool) (g:FuncId) (c d:PV) (objs:List Obj) (K:KT):nD T pt (.fn g [] [c,d]) [] objs K=T.fn g [c,d] objs K:=rfl
theorem ixK (a b:Int) (objs:List Obj) (K:KT) :
  (aZ D 55 (.addr (su a b)) (.int .i64 0) objs K=K (.addr (.int .i64 a)) objs 0)∧
  (aZ D 55 (.addr (su a b)) (.int .i64 1) objs K=K (.addr (.int .i64 b)) objs 0):=by
 have h1:(D 3).kind≠.none:=by intro h;cases h
 exact ⟨propext ⟨fun h=>h.2.2.2.2.2.2,fun h=>⟨h1,by decide,by decide,Nat.le_of_ble_eq_true rfl,by decide,rfl,h⟩⟩,
  propext ⟨fun h=>h.2.2.2.2.2.2,fun h=>⟨h1,by decide,by decide,Nat.le_of_ble_eq_true rfl,by decide,rfl,h⟩⟩⟩
theorem fK.aeS {t:aC}(h:fK t) (hk:Y.kindOf t=8):fK (qW ⟨5,0,[],[],0,aM⟩ (aG t))∧(qW ⟨5,0,[],[],0,aM⟩ (aG t)).length≤t.length∧(aG t).flatten.length≤1000000∧∀ p ∈ aG t,p≠[]:=by
 obtain ⟨p,hp⟩:=h.rt.xI (by omega)
 have hpo:=h.part (p:=p) (by rw [hp];simp)
 have hl:=h.len
 rw [hp]
 refine ⟨⟨aam (.inr (.inr (.inl rfl))) (fun _=>rfl) rfl rfl rfl rfl fun q hq=>?_,?_,fun m hm=>?_⟩,?_,?_,fun q hq=>?_⟩
 · rw [List.mem_singleton.1 hq];exact hpo.1.rt
 · simp [qW];omega
 · rcases List.mem_cons.1 hm with rfl | hm
   · exact zero_le _
   · exact hpo.1.cs m (by simpa using hm)
 · simp [qW];omega
 · simp;omega
 · rw [List.mem_singleton.1 hq];exact hpo.1.rt.one.ne
theorem XD (nm:List UInt8) (v:aC) (k:Nat):Y.skip (Cu nm v) k=Y.skip v k:=by
 cases v with
 | nil=>rfl
 | cons n r=>cases k <;> rfl
theorem Q6 (nm:List UInt8) (v:aC):(Cu nm v).length=v.length:=by cases v <;> rfl
theorem XE {Q:dY→List aC→Bool}(nm:List UInt8) (hQ:∀ n ps,Q { n with name:=nm } ps=Q n ps){v:aC}(h:Y.Good Q v):Y.Good Q (Cu nm v):=by
 cases v with
 | nil=>exact h
 | cons n r=>
  intro i m s hd
  cases i with
  | zero=>
   simp only [Cu,List.drop_zero,List.cons.injEq] at hd
   obtain ⟨rfl,rfl⟩:=hd
   obtain ⟨ps,h1,h2⟩:=h 0 n r rfl
   exact ⟨ps,h1,by rw [hQ];exact h2⟩
  | succ i=>exact h (i+1) m s hd
theorem fK.ent {x:aC}(h:fK x) (hl:x.length+2≤50000):fK (Ff x)∧(Ff x).length=x.length+2:=by
 have he:Ff x=(⟨2,2,[],[],0,aM⟩:dY)::[[⟨1,0,Iw,[],16,aM⟩],Cu o5 x].flatten:=by simp [Ff]
 have hlen:(Ff x).length=x.length+2:=by simp [Ff,Q6]
 have hone:∀ p ∈ [[(⟨1,0,Iw,[],16,aM⟩:dY)],Cu o5 x],Y.One p:=by
  intro p hp
  rcases List.mem_cons.1 hp with rfl | hp
  · rfl
  · rw [List.mem_singleton.1 hp]
    show Y.skip _ 1=_
    rw [XD,Q6];exact h.rt.one
 have hgood:∀ p ∈ [[(⟨1,0,Iw,[],16,aM⟩:dY)],Cu o5 x],Y.Good (jS bq d_) p:=by
  intro p hp
  rcases List.mem_cons.1 hp with rfl | hp
  · intro i m s hd
    cases i with
    | zero=>
     simp only [List.drop_zero,List.cons.injEq] at hd
     obtain ⟨rfl,rfl⟩:=hd
     exact ⟨[],rfl,rfl⟩
    | succ i=>simp at hd
  · rw [List.mem_singleton.1 hp]
    exact XE o5 (fun _ _=>rfl) h.rt.good
 have hk9:Y.kindOf x≠9:=h.rt.kind
 have hkx:Y.kindOf (Cu o5 x)=Y.kindOf x:=by cases x <;> rfl
 have hnx:Y.nameOf (Cu o5 x)=o5:=by
  cases x with
  | nil=>exact absurd rfl h.rt.one.ne
  | cons n r=>rfl
 have hrow:jS bq d_ ⟨2,2,[],[],0,aM⟩ [[⟨1,0,Iw,[],16,aM⟩],Cu o5 x]=true:=by
  have u1:utf Iw=true:=by decide
  have u2:utf o5=true:=by decide
  have r1:wD [Iw,o5]=true:=by decide
  have e9:(Y.kindOf x==9)=false:=by simpa using hk9
  have n1:Y.nameOf [(⟨1,0,Iw,[],16,aM⟩:dY)]=Iw:=rfl
  have n2:Y.kindOf [(⟨1,0,Iw,[],16,aM⟩:dY)]=1:=rfl
  simp [jS,bK,sI,yH,vN,hkx,hnx,e9,n1,n2,u1,u2,r1]
 obtain ⟨g1,g2⟩:=KR (x:=⟨2,2,[],[],0,aM⟩) rfl hone hgood hrow
 refine ⟨⟨⟨by rw [he];exact g1,rfl,by show (2:Int)≠9;decide,by rw [he];exact g2⟩,by omega,fun m hm=>?_⟩,hlen⟩
 simp only [Ff,List.mem_cons] at hm
 rcases hm with rfl | rfl | hm
 · exact zero_le _
 · exact zero_le _
 · cases x with
   | nil=>cases hm
   | cons y q=>
    rcases List.mem_cons.1 hm with rfl | hm
    · exact h.cs y (List.mem_cons_self ..)
    · exact h.cs m (List.mem_cons_of_mem _ hm)
theorem fK.eO {t:aC}(h:fK t):(aG t).length≤100000:=by
 obtain ⟨m,r,hmr⟩:∃ m r,t=m::r:=by
  cases t with
  | nil=>exact absurd rfl h.rt.one.ne
  | cons m r=>exact ⟨m,r,rfl⟩
 subst hmr
 have:=(D8 h.rt).2
 have hl:=h.len
 simp only [List.length_cons] at hl
 omega
theorem Q7 (k:Nat) (hS:aB Tryz.prog 20 (dM k)) (t u:aC) (ht:fK t) (hu:fK u) (hk:u.length≤k) (hl:t.length+2*u.length≤50000):ai Tryz.prog 20 [aA t,aA u] [] (.bool (f_ t u)) []:=by
 obtain ⟨n,hn,hkn,hkm,hks⟩:∃ n,t[0]?=some n∧Y.kindOf t=n.kind∧fJ t=n.n∧C8 t=n.s:=by
  cases t with
  | nil=>exact absurd rfl ht.rt.one.ne
  | cons n r=>exact ⟨n,rfl,rfl,rfl,rfl⟩
 obtain ⟨n',hn',hkn',aef,hks'⟩:∃ n,u[0]?=some n∧Y.kindOf u=n.kind∧fJ u=n.n∧C8 u=n.s:=by
  cases u with
  | nil=>exact absurd rfl hu.rt.one.ne
  | cons n r=>exact ⟨n,rfl,rfl,rfl,rfl⟩
 refine Im.bg (T:=aR Tryz.prog [(52,kJ),(57,qc),(56,gD n.kind n'.kind),(53,vM k (aG t) (aG u)),(58,ND k),(61,CO k),(60,CG),(59,uo),(20,dM k)]) 1 hD
  (aj (af si (af Cw (af (Iy _ _) (af (Uj k hS _ _) (af (XC k hS) (af (Q5 k hS) (af QT (af EM (af hS ah)))))))))) a_ (by decide) fun Q hQ=>?_
 have htl:=ht.len
 have hul:=hu.len
 have cF:∀ a b,¬ (n.kind=a∧n'.kind=b)→(decide (n.kind=a) && decide (n'.kind=b))=false:=fun a b h=>by
  rw [Bool.and_eq_false_iff,decide_eq_false_iff_not,decide_eq_false_iff_not]
  by_cases h1:n.kind=a
  · exact .inr fun h2=>h ⟨h1,h2⟩
  · exact .inl h1
 have cT:∀ a b,n.kind=a∧n'.kind=b→(decide (n.kind=a) && decide (n'.kind=b))=true:=fun a b h=>by simp [h.1,h.2]
 have hsub:=Cv t hu.rt
 unfold ng at hsub
 rw [hkn,hkn',hkm,aef,hks,hks'] at hsub
 (conv=>arg 4;cbv);simp(maxSteps:=400000)only[↓av,ax,BEq.rfl,reduceIte,reduceCtorEq,Nat.reduceLT,reduceAdd,reduceSub,reduceMul,Nat.reduceBEq,reduceLeDiff,reduceToNat,reduceLE,hQ,↓kJ,pS]
 refine ⟨ht.rt.one,by omega,hu.rt.one,by omega,?_⟩
 refine aN _ (Weak.freeze 1 0 (zero_le _) _) ?_
 simp(maxSteps:=400000)only[↓av,ax,BEq.rfl,reduceIte,reduceCtorEq,Nat.reduceLT,reduceAdd,reduceSub,reduceMul,Nat.reduceBEq,reduceLeDiff,reduceToNat,reduceLE,hQ,hn,hn',↓Z6,jW,jX,zK,pK,kC]
 refine ⟨by decide,?_⟩
 refine aN _ (Weak.freeze 1 0 (zero_le _) _) ?_
 by_cases k11:n.kind=1∧n'.kind=1
 · rw [if_pos k11] at hsub
   simp(maxSteps:=400000)only[↓av,ax,BEq.rfl,reduceIte,reduceCtorEq,Nat.reduceLT,reduceAdd,reduceSub,reduceMul,Nat.reduceBEq,reduceLeDiff,reduceToNat,reduceLE,hQ,pq,jW,jX,↓gD,cT 1 1 k11,↓qc,hsub]
   exact ⟨ht.rt.one,hu.rt.one,by omega,by omega,ht.aeR (by omega),hu.aeR (by omega)⟩
 rw [if_neg k11] at hsub
 have c11:=cF 1 1 k11
 by_cases k22:n.kind=2∧n'.kind=2
 · rw [if_pos k22] at hsub
   simp(maxSteps:=400000)only[↓av,ax,BEq.rfl,reduceIte,reduceCtorEq,Nat.reduceLT,reduceAdd,reduceSub,reduceMul,Nat.reduceBEq,reduceLeDiff,reduceToNat,reduceLE,hQ,pq,jW,jX,↓gD,c11,cT 2 2 k22,↓ND,hsub]
   exact ⟨ht,hu,hk,hl,by omega,by omega⟩
 rw [if_neg k22] at hsub
 have XF:=cF 2 2 k22
 by_cases k32:n.kind=3∧n'.kind=2
 · rw [if_pos k32] at hsub
   by_cases h1:n'.n=1
   · have h1':=eq_true h1
     have hr:f_ t u=decide (((aG u).length:Int)=0):=by rw [hsub,h1];simp
     simp(maxSteps:=400000)only[↓av,ax,BEq.rfl,reduceIte,reduceCtorEq,Nat.reduceLT,reduceAdd,reduceSub,reduceMul,Nat.reduceBEq,reduceLeDiff,reduceToNat,reduceLE,hQ,pq,jW,jX,↓gD,c11,XF,cT 3 2 k32,hn',h1',hr]
   · have h1':=eq_false h1
     have hr:f_ t u=false:=by rw [hsub];simp [h1]
     simp(maxSteps:=400000)only[↓av,ax,BEq.rfl,reduceIte,reduceCtorEq,Nat.reduceLT,reduceAdd,reduceSub,reduceMul,Nat.reduceBEq,reduceLeDiff,reduceToNat,reduceLE,hQ,pq,jW,jX,↓gD,c11,XF,cT 3 2 k32,hn',h1',hr]
 rw [if_neg k32] at hsub
 have c32:=cF 3 2 k32
 have hone:n'.kind=3∨n'.kind=5→∃ y,aG u=[y]:=fun h=>hu.rt.xI (by omega)
 have hlist:n'.kind=3∨n'.kind=5→sw k (aG u) (aG t):=fun h=>by
  obtain ⟨y,hy⟩:=hone h
  have hyo:=hu.part (p:=y) (by rw [hy];simp)
  refine ⟨y,by rw [hy];rfl,hyo.1,by omega,fun p hp=>?_⟩
  have:=ht.part hp
  exact ⟨this.1,by omega⟩
 have hpl:(aG t).length≤100000:=ht.eO
 have hpl':(aG u).length≤100000:=hu.eO
 by_cases k23:n.kind=2∧n'.kind=3
 · rw [if_pos k23] at hsub
   by_cases h1:n.n=0
   · have h1':=eq_true h1
     have hr:f_ t u=Bool.not ((aG t).any (oP (aG u))):=by rw [hsub,all_in];simp [h1]
     simp(maxSteps:=400000)only[↓av,ax,BEq.rfl,reduceIte,reduceCtorEq,Nat.reduceLT,reduceAdd,reduceSub,reduceMul,Nat.reduceBEq,reduceLeDiff,reduceToNat,reduceLE,hQ,pq,jW,jX,↓gD,c11,XF,c32,cT 2 3 k23,hn,h1',↓NE,↓vM,hr]
     exact ⟨hpl,hlist (.inl k23.2)⟩
   · have h1':=eq_false h1
     have hr:f_ t u=false:=by rw [hsub];simp [h1]
     simp(maxSteps:=400000)only[↓av,ax,BEq.rfl,reduceIte,reduceCtorEq,Nat.reduceLT,reduceAdd,reduceSub,reduceMul,Nat.reduceBEq,reduceLeDiff,reduceToNat,reduceLE,hQ,pq,jW,jX,↓gD,c11,XF,c32,cT 2 3 k23,hn,h1',hr]
 rw [if_neg k23] at hsub
 have c23:=cF 2 3 k23
 by_cases k45:(n.kind=4∨n.kind=7∨n.kind=5)∧n'.kind=5
 · rw [if_pos k45] at hsub
   have hr:f_ t u=Bool.not ((aG t).any (oP (aG u))):=by rw [hsub,all_in]
   by_cases h4:n.kind=4
   · simp(maxSteps:=400000)only[↓av,ax,BEq.rfl,reduceIte,reduceCtorEq,Nat.reduceLT,reduceAdd,reduceSub,reduceMul,Nat.reduceBEq,reduceLeDiff,reduceToNat,reduceLE,hQ,pq,jW,jX,↓gD,c11,XF,c32,c23,cT 4 5 ⟨h4,k45.2⟩,↓NE,↓vM,hr]
     exact ⟨hpl,hlist (.inr k45.2)⟩
   · have c45:=cF 4 5 (by omega)
     by_cases h7:n.kind=7
     · simp(maxSteps:=400000)only[↓av,ax,BEq.rfl,reduceIte,reduceCtorEq,Nat.reduceLT,reduceAdd,reduceSub,reduceMul,Nat.reduceBEq,reduceLeDiff,reduceToNat,reduceLE,hQ,pq,jW,jX,↓gD,c11,XF,c32,c23,c45,cT 7 5 ⟨h7,k45.2⟩,↓NE,↓vM,hr]
       exact ⟨hpl,hlist (.inr k45.2)⟩
     · have c75:=cF 7 5 (by omega)
       simp(maxSteps:=400000)only[↓av,ax,BEq.rfl,reduceIte,reduceCtorEq,Nat.reduceLT,reduceAdd,reduceSub,reduceMul,Nat.reduceBEq,reduceLeDiff,reduceToNat,reduceLE,hQ,pq,jW,jX,↓gD,c11,XF,c32,c23,c45,c75,cT 5 5 ⟨by omega,k45.2⟩,↓NE,↓vM,hr]
       exact ⟨hpl,hlist (.inr k45.2)⟩
 rw [if_neg k45] at hsub
 have c45:=cF 4 5 (by omega)
 have c75:=cF 7 5 (by omega)
 have c55:=cF 5 5 (by omega)
 by_cases k85:n.kind=8∧n'.kind=5
 · rw [if_pos k85] at hsub
   obtain ⟨y,hy⟩:=hone (.inr k85.2)
   have hgy:(aG u)[0]?=some y:=by rw [hy];rfl
   have hy0:y0 u=y:=by rw [y0,hy];rfl
   rw [hy0] at hsub
   have hyl:(0<((aG u).length:Int))=True:=eq_true (by rw [hy];simp)
   simp(maxSteps:=400000)only[↓av,ax,BEq.rfl,reduceIte,reduceCtorEq,Nat.reduceLT,reduceAdd,reduceSub,reduceMul,Nat.reduceBEq,reduceLeDiff,reduceToNat,reduceLE,hQ,pq,jW,jX,↓gD,c11,XF,c32,c23,c45,c75,c55,cT 8 5 k85,qR,gM,gV,r_,↓uo,Z8,Z9,hgy,hyl,↓dM,hsub]
   obtain ⟨m1,m2,m3,m4⟩:=ht.aeS (by omega)
   have hyo:=hu.part (p:=y) (by rw [hy];simp)
   exact ⟨hpl,m3,m4,m1,hyo.1,by omega,by omega⟩
 rw [if_neg k85] at hsub
 have c85:=cF 8 5 k85
 by_cases k65:n.kind=6∧n'.kind=5
 · rw [if_pos k65] at hsub
   obtain ⟨y,hy⟩:=hone (.inr k65.2)
   have hgy:(aG u)[0]?=some y:=by rw [hy];rfl
   have hy0:y0 u=y:=by rw [y0,hy];rfl
   obtain ⟨x,hx⟩:=ht.rt.xI (by omega)
   have hgx:(aG t)[0]?=some x:=by rw [hx];rfl
   have hx0:y0 t=x:=by rw [y0,hx];rfl
   rw [hy0,hx0] at hsub
   have hyl:(0<((aG u).length:Int))=True:=eq_true (by rw [hy];simp)
   have hxl:(0<((aG t).length:Int))=True:=eq_true (by rw [hx];simp)
   simp(maxSteps:=400000)only[↓av,ax,BEq.rfl,reduceIte,reduceCtorEq,Nat.reduceLT,reduceAdd,reduceSub,reduceMul,Nat.reduceBEq,reduceLeDiff,reduceToNat,reduceLE,hQ,pq,jW,jX,↓gD,c11,XF,c32,c23,c45,c75,c55,c85,cT 6 5 k65,↓CG,hgx,hxl,hgy,hyl,↓dM,hsub]
   have hyo:=hu.part (p:=y) (by rw [hy];simp)
   have hxo:=ht.part (p:=x) (by rw [hx];simp)
   obtain ⟨m1,m2⟩:=hxo.1.ent (by omega)
   exact ⟨by omega,hxo.1.rt.one.ne,m1,hyo.1,by omega,by omega⟩
 rw [if_neg k65] at hsub
 have c65:=cF 6 5 k65
 by_cases h0:n'.kind=0
 · rw [if_pos h0] at hsub
   have h0':=eq_true h0
   simp(maxSteps:=400000)only[↓av,ax,BEq.rfl,reduceIte,reduceCtorEq,Nat.reduceLT,reduceAdd,reduceSub,reduceMul,Nat.reduceBEq,reduceLeDiff,reduceToNat,reduceLE,hQ,pq,jW,jX,↓gD,c11,XF,c32,c23,c45,c75,c55,c85,c65,hn',h0',hsub]
 rw [if_neg h0] at hsub
 have h0':=eq_false h0
 by_cases he:n.kind=n'.kind
 · have he':=eq_true he
   by_cases hs:n.s=n'.s
   · have hs':=eq_true hs
     have hr:f_ t u=fZ f_ (aG t) (aG u):=by rw [hsub];simp [he,hs]
     simp(maxSteps:=400000)only[↓av,ax,BEq.rfl,reduceIte,reduceCtorEq,Nat.reduceLT,reduceAdd,reduceSub,reduceMul,Nat.reduceBEq,reduceLeDiff,reduceToNat,reduceLE,hQ,pq,jW,jX,↓gD,c11,XF,c32,c23,c45,c75,c55,c85,c65,hn,hn',h0',ixK,he',hs',↓CO,hr]
     exact ⟨hpl,hpl',fun x hx y hy=>by
      have h1:=ht.part hx
      have h2:=hu.part hy
      exact ⟨h1.1,h2.1,by omega,by omega⟩⟩
   · have hs':=eq_false hs
     have hr:f_ t u=false:=by rw [hsub];simp [hs]
     simp(maxSteps:=400000)only[↓av,ax,BEq.rfl,reduceIte,reduceCtorEq,Nat.reduceLT,reduceAdd,reduceSub,reduceMul,Nat.reduceBEq,reduceLeDiff,reduceToNat,reduceLE,hQ,pq,jW,jX,↓gD,c11,XF,c32,c23,c45,c75,c55,c85,c65,hn,hn',h0',ixK,he',hs',hr]
 · have he':=eq_false he
   have hr:f_ t u=false:=by rw [hsub];simp [he]
   simp(maxSteps:=400000)only[↓av,ax,BEq.rfl,reduceIte,reduceCtorEq,Nat.reduceLT,reduceAdd,reduceSub,reduceMul,Nat.reduceBEq,reduceLeDiff,reduceToNat,reduceLE,hQ,pq,jW,jX,↓gD,c11,XF,c32,c23,c45,c75,c55,c85,c65,hn,hn',h0',ixK,he',hr]
theorem IC:∀ k:Nat,aB Tryz.prog 20 (dM k)
 | 0=>by
  intro args objs K h
  unfold dM at h
  split at h
  · obtain ⟨t,rfl,u,rfl,_,_,h3,_⟩:=h
    exact absurd h3 (Nat.not_lt_zero _)
  · exact h.elim
 | k+1=>by
  intro args objs K h
  unfold dM at h
  split at h
  · obtain ⟨t,rfl,u,rfl,h1,h2,h3,h4,hk⟩:=h
    exact ⟨_,_,_,.pure _ rfl (Q7 k (IC k) t u h1 h2 (by omega) h4),hk⟩
  · exact h.elim
def D6:dF:=fun args objs K=>match args with
 | [a0,a1]=>fB aA a0 (HK.mk:HK fun t=>fB aA a1 (HK.mk:HK fun u=>(fK t)∧(fK u)∧(t.length+2*u.length≤50000)∧K (.bool (f_ t u)) objs 0))
 | _=>False
theorem XG:aB Tryz.prog 20 (D6):=by
 intro args objs K h
 unfold D6 at h
 split at h
 · rename_i a0 a1
   obtain ⟨t,rfl,u,rfl,h1,h2,h3,hk⟩:=h
   exact ⟨_,_,_,.pure _ rfl (Q7 u.length (IC _) t u h1 h2 (Nat.le_refl _) h3),hk⟩
 · exact h.elim
end Lp
namespace Lp
open Go Go.Proofs
theorem fK.few {t:aC}{k:Nat}(hk:k≤40) (h:JD t k=true):fK t∧t.length≤40:=by
 obtain ⟨hw,hl⟩:=ac9 (k:=k) (by omega) h
 exact ⟨⟨hw.rt,by omega,hw.cs⟩,by omega⟩
end Lp
namespace Lp
open Go Go.Proofs
open List (all_eq_true length_cons)
open Nat (reduceAdd reduceLeDiff reduceMul reduceSub zero_le)
open Int (reduceLE reduceToNat)
def jf (mask:Int) (l:List fQ):aC:=⟨1,l.length,[],[],mask,aM⟩::l.map iE
theorem Q8 (mask:Int) (l:List fQ) (hl:l.length≤100000):ai Tryz.prog 23 [.int .i64 mask,bf l] [] (aA (jf mask l)) []:=by
 refine Cx.bg (T:=aR Tryz.prog []) 1 hD (aj ah) a_ (by decide) fun Q hQ=>?_
 (conv=>arg 4;cbv);simp(maxSteps:=400000)only[↓av,ax,BEq.rfl,reduceIte,reduceCtorEq,Nat.reduceLT,reduceAdd,reduceSub,reduceMul,Nat.reduceBEq,reduceLeDiff,reduceToNat,reduceLE,hQ,qR,gM,gV,r_,bY,dO]
 refine aH (fun m S=>∃ i ver:Nat,i+m=l.length∧S=⟨dI 33 [(1,bf l),(5,.bG 0 ver),(6,.int .i64 i)],[⟨51,11,((⟨1,l.length,[],[],mask,aM⟩:dY)::(l.take i).map iE).map aL,true,ver⟩]⟩) l.length ⟨0,1,by omega,?_⟩ ?_
 · simp only [bW,keepR,reduceAdd,nu,Nat.reduceBEq,List.map_nil]
   rfl
 rintro m S ⟨i,ver,him,rfl⟩
 rcases Nat.lt_or_ge i l.length with h | h
 · have hlt:((i:Int)<(l.length:Int))=True:=eq_true (by omega)
   have zi:(0≤(i:Int))=True:=eq_true (by omega)
   have hgi:=List.getElem?_eq_getElem h
   generalize l[i]=a at hgi
   have htk:(l.take (i+1)).map iE=(l.take i).map iE++[iE a]:=by rw [List.take_add_one,hgi];simp
   have hti:(l.take i).length=i:=by rw [List.length_take];omega
   have eA:(⟨9,0,[],[],a.n,a.c⟩:dY)=iE a:=rfl
   simp(maxSteps:=400000)only[↓av,ax,BEq.rfl,reduceIte,reduceCtorEq,Nat.reduceLT,reduceAdd,reduceSub,reduceMul,Nat.reduceBEq,reduceLeDiff,reduceToNat,reduceLE,hQ,hlt,zi,hgi,qR,gM,gV,r_,bY,dO,hti,eA]
   exact ⟨by omega,by omega,by decide,⟨by omega,by omega⟩,m-1,by omega,i+1,ver+1,by omega,by rw [htk,List.map_append];rfl⟩
 · have hlt:((i:Int)<(l.length:Int))=False:=eq_false (by omega)
   have hi:l.take i=l:=List.take_of_length_le h
   simp(maxSteps:=400000)only[↓av,ax,BEq.rfl,reduceIte,reduceCtorEq,Nat.reduceLT,reduceAdd,reduceSub,reduceMul,Nat.reduceBEq,reduceLeDiff,reduceToNat,reduceLE,hQ,hlt,hi]
   exact (IA (jf mask l) ver 51 []).symm
def uq:dF:=fun args objs K=>match args with
 | [.int .i64 mask,a1]=>fB bf a1 (HK.mk:HK fun l=>(l.length≤100000)∧K (aA (jf mask l)) objs 0)
 | _=>False
theorem NF:aB Tryz.prog 23 (uq):=by
 intro args objs K h
 unfold uq at h
 split at h
 · rename_i mask a1
   obtain ⟨l,rfl,h1,hk⟩:=h
   exact ⟨_,_,_,.pure _ rfl (Q8 mask l h1),hk⟩
 · exact h.elim
theorem xK {mask:Int}{l:List fQ}(hm:1≤mask∧mask≤31) (ha:allA l 8=true):fK (jf mask l)∧(jf mask l).length≤9∧Y.kindOf (jf mask l)=1∧bT (jf mask l)=l∧fJ (jf mask l)=mask:=by
 obtain ⟨a1,a2⟩:=Ni ha
 have hr:∀ a ∈ l,gG a=true:=fun a h=>by
  simp only [allA,Bool.and_eq_true,decide_eq_true_eq,all_eq_true] at ha
  have:=ha.2 a h
  simp only [MN,Bool.and_eq_true] at this
  exact this.2
 have hf:∀ l:List fQ,(l.map fun a=>[iE a]).flatten=l.map iE:=fun l=>by
  induction l with
  | nil=>rfl
  | cons a l ih=>simp [ih]
 have he:jf mask l=(⟨1,l.length,[],[],mask,aM⟩:dY)::(l.map fun a=>[iE a]).flatten:=by rw [hf];rfl
 have hp:∀ p ∈ (l.map fun a=>[iE a]),Y.One p∧Y.Good (jS bq d_) p:=fun p hp=>by
  obtain ⟨a,h1,rfl⟩:=List.mem_map.1 hp
  exact ZQ (hr a h1)
 have hrow:jS bq d_ ⟨1,l.length,[],[],mask,aM⟩ (l.map fun a=>[iE a])=true:=by
  have h1:(l.map fun a=>[iE a]).all (yH ⟨1,l.length,[],[],mask,aM⟩)=true:=by
   rw [all_eq_true]
   intro p hp
   obtain ⟨a,_,rfl⟩:=List.mem_map.1 hp
   rfl
  simp [jS,bK,sI,vN,hm]
  intro a _
  rfl
 obtain ⟨g1,g2⟩:=KR (x:=⟨1,l.length,[],[],mask,aM⟩) (by simp) (fun p h=>(hp p h).1) (fun p h=>(hp p h).2) hrow
 have hlen:(jf mask l).length≤9:=by simp [jf];omega
 refine ⟨⟨⟨by rw [he];exact g1,rfl,by show (1:Int)≠9;decide,by rw [he];exact g2⟩,by omega,fun m hm=>?_⟩,hlen,rfl,?_,rfl⟩
 · rcases List.mem_cons.1 hm with rfl | hm
   · exact zero_le _
   · obtain ⟨a,h1,rfl⟩:=List.mem_map.1 hm
     have:=(a1 a h1).2.1
     show a.c.s.length≤_
     omega
 · simp only [jf,bT,if_true,Int.toNat_natCast]
   rw [List.take_of_length_le (by simp),List.map_map]
   exact (List.map_congr_left fun a _=>rfl).trans (List.map_id _)
theorem KY {m m':Int}{l l':List fQ}(h:1≤m∧m≤31) (h':1≤m'∧m'≤31) (ha:allA l 8=true) (ha':allA l' 8=true) (hm:∀ k:Int,0≤k→k<5→jy m k=true→jy m' k=true) (hl:∀ a ∈ l',a ∈ l):f_ (jf m l) (jf m' l')=true:=by
 obtain ⟨s1,_,s3,s4,s5⟩:=xK h ha
 obtain ⟨t1,_,t3,t4,t5⟩:=xK h' ha'
 rw [Cv _ t1.rt]
 unfold ng
 rw [if_pos ⟨s3,t3⟩]
 refine QU (fun k hk=>by rw [s5,t5];exact hm k (by omega) (by omega)) fun x hx=>?_
 rw [t4] at hx
 rw [s4]
 exact ⟨hl x hx,((Ni ha').1 x hx).2.2⟩
theorem XH {a:fQ}{l:List fQ}(h:allA (a::l) 8=true):allA l 8=true:=by
 simp only [allA,Bool.and_eq_true,decide_eq_true_eq,all_eq_true,length_cons] at h ⊢
 exact ⟨by omega,fun x hx=>h.2 x (List.mem_cons_of_mem _ hx)⟩
def nH (t:aC):aC:=match t with | n::r=>{ n with n:=1 }::r | []=>[]
theorem aaf {t:aC}(h:fK t) (hk:Y.kindOf t=2):fK (nH t)∧(nH t).length=t.length∧f_ t (nH t)=true∧f_ (nH t) t=decide (fJ t=1):=by
 cases t with
 | nil=>exact absurd rfl h.rt.one.ne
 | cons n r=>
  have hk':n.kind=2:=hk
  obtain ⟨p1,pm,ps,p3,p4,p5,p6,p7,p8,_⟩:=h.rt.parts
  have hgs:Y.Good (jS bq d_) r:=(show Y.Good _ ([n]++r) from h.rt.good).suf
  have hrow:jS bq d_ { n with n:=1 } ps=true:=by
   simp only [jS,Bool.and_eq_true]
   refine ⟨⟨?_,p5⟩,by simp [vN,hk']⟩
   simp [bK,hk'] at p1 ⊢
   exact ⟨⟨p1.1.1.1,p1.1.2⟩,p1.2⟩
  have ho:Y.One (nH (n::r)):=h.rt.one
  have hso:fK (nH (n::r)):=by
   refine ⟨⟨ho,h.rt.name,h.rt.kind,?_⟩,h.len,fun m hm=>?_⟩
   · intro i m s hd
     cases i with
     | succ i=>exact hgs i m s hd
     | zero=>
      simp only [nH,List.drop_zero,List.cons.injEq] at hd
      obtain ⟨rfl,rfl⟩:=hd
      exact ⟨ps,p3,hrow⟩
   · rcases List.mem_cons.1 hm with rfl | hm
     · exact h.cs n (List.mem_cons_self ..)
     · exact h.cs m (List.mem_cons_of_mem _ hm)
  obtain ⟨f1,f2⟩:=h.rt.abn hk
  have hfl:dD (nH (n::r))=dD (n::r):=rfl
  have ack:∀ nm q,(nm,q) ∈ dD (n::r)→∃ x,(nm,x) ∈ dD (n::r)∧f_ x q=true:=fun nm q hq=>⟨q,hq,((h.rt.part q (List.of_mem_zip hq).2).1).CJ⟩
  refine ⟨hso,rfl,?_,?_⟩
  · rw [Cv _ hso.rt]
    unfold ng
    have k2:Y.kindOf (nH (n::r))=2:=hk
    rw [if_neg (by omega),if_pos ⟨hk,k2⟩]
    exact Nz _ f1 (by rw [hfl];exact ack) (.inl rfl)
  · rw [Cv _ h.rt]
    unfold ng
    have k2:Y.kindOf (nH (n::r))=2:=hk
    rw [if_neg (by omega),if_pos ⟨k2,hk⟩]
    by_cases h1:fJ (n::r)=1
    · have:=Nz (t:=nH (n::r)) (u:=n::r) f_ f1 (fun nm q hq=>ack nm q hq) (.inl h1)
      rw [this];simp [h1]
    · have:fJ (nH (n::r))=1:=rfl
      simp [wm,h1,this]
theorem adw {a b:Int}(ha:1≤a∧a≤31) (hb:1≤b∧b≤31):1≤oG .or .i64 a b:=by
 obtain ⟨m,rfl⟩:=Int.eq_ofNat_of_zero_le (show 0≤a by omega)
 obtain ⟨n,rfl⟩:=Int.eq_ofNat_of_zero_le (show 0≤b by omega)
 obtain ⟨h1,_⟩:=QO m (List.mem_range.2 (by omega)) n (List.mem_range.2 (by omega))
 rw [h1]
 have:m≤m ||| n:=Nat.left_le_or
 omega
theorem Uk (m:Int){l:List fQ}(h:∀ a ∈ l,pO a.c) (hl:l.length≤100000):qF (jf m l):=by
 refine ⟨by simp [jf];omega,fun n hn=>?_⟩
 rcases List.mem_cons.1 hn with rfl | hn
 · exact ⟨by simp,by simp,by simp [pO,aM]⟩
 · obtain ⟨a,h1,rfl⟩:=List.mem_map.1 hn
   exact ⟨by simp [iE],by simp [iE],h a h1⟩
theorem JW (p:Int×Int) (l:List fQ) (t:aC) (hp:Z7 p) (hl:ZJ l) (hr:ZI t):ai Tryz.prog 6 [U6 p,bf l,aA t] [] (.bool true) []:=by
 have l0:=hl.len
 have l1:=hl.all
 have l0':l.length≤4611686018427387904:=by omega
 obtain ⟨m0,m1⟩:=p
 obtain ⟨hp0,hp1⟩:=hp
 simp only at hp0 hp1
 simp only [U6]
 refine wo.bg (T:=aR Tryz.prog [(10,Av),(22,vk),(7,t_),(23,uq),(16,nW),(20,D6)]) 1 hD (aj (af JQ (af Tc (af Qn (af NF (af Co (af XG ah))))))) a_ (by decide) fun Q hQ=>?_
 have t40:Int.toNat 40=40:=rfl
 have zf:eY 1 0 [⟨55,2,[.agg [.int .i64 m0,.int .i64 m1]],true,1⟩] (.bI 0 1 0 0)=.addr (.agg [.int .i64 m0,.int .i64 m1]):=rfl
 have q0:(0<((2:Nat):Int))=True:=eq_true (by decide)
 have q1:(1<((2:Nat):Int))=True:=eq_true (by decide)
 (conv=>arg 4;cbv);simp(maxSteps:=400000)only[↓av,ax,BEq.rfl,reduceIte,reduceCtorEq,Nat.reduceLT,reduceAdd,reduceSub,reduceMul,Nat.reduceBEq,reduceLeDiff,reduceToNat,reduceLE,hQ]
 refine aN _ (Weak.freeze 1 0 (zero_le _) _) ?_
 rcases tf (m0<1) with h1 | h1
 · simp(maxSteps:=400000)only[↓av,ax,BEq.rfl,reduceIte,reduceCtorEq,Nat.reduceLT,reduceAdd,reduceSub,reduceMul,Nat.reduceBEq,reduceLeDiff,reduceToNat,reduceLE,hQ,zf,QN,q0,q1,h1,↓gW]
 rcases tf (31<m0) with h2 | h2
 · simp(maxSteps:=400000)only[↓av,ax,BEq.rfl,reduceIte,reduceCtorEq,Nat.reduceLT,reduceAdd,reduceSub,reduceMul,Nat.reduceBEq,reduceLeDiff,reduceToNat,reduceLE,hQ,zf,QN,q0,q1,h1,h2,↓gW]
 rcases tf (m1<1) with h3 | h3
 · simp(maxSteps:=400000)only[↓av,ax,BEq.rfl,reduceIte,reduceCtorEq,Nat.reduceLT,reduceAdd,reduceSub,reduceMul,Nat.reduceBEq,reduceLeDiff,reduceToNat,reduceLE,hQ,zf,QN,q0,q1,h1,h2,h3,↓gW]
 rcases tf (31<m1) with h4 | h4
 · simp(maxSteps:=400000)only[↓av,ax,BEq.rfl,reduceIte,reduceCtorEq,Nat.reduceLT,reduceAdd,reduceSub,reduceMul,Nat.reduceBEq,reduceLeDiff,reduceToNat,reduceLE,hQ,zf,QN,q0,q1,h1,h2,h3,h4,↓gW]
 cases ha:allA l 8 with
 | false=>
  simp(maxSteps:=400000)only[↓av,ax,BEq.rfl,reduceIte,reduceCtorEq,Nat.reduceLT,reduceAdd,reduceSub,reduceMul,Nat.reduceBEq,reduceLeDiff,reduceToNat,reduceLE,hQ,zf,QN,q0,q1,h1,h2,h3,h4,↓vk,ha,↓gW]
  exact ⟨l0',l1⟩
 | true=>
  cases hf:JD t 40 with
  | false=>
   simp(maxSteps:=400000)only[↓av,ax,BEq.rfl,reduceIte,reduceCtorEq,Nat.reduceLT,reduceAdd,reduceSub,reduceMul,Nat.reduceBEq,reduceLeDiff,reduceToNat,reduceLE,hQ,zf,QN,q0,q1,h1,h2,h3,h4,↓vk,ha,↓t_,t40,hf,↓gW]
   exact ⟨l0',l1,hr.len,hr.txt,hr.cnm⟩
  | true=>
   obtain ⟨ht,afK⟩:=fK.few (by decide) hf
   have e1:=of_eq_false h1
   have e2:=of_eq_false h2
   have e3:=of_eq_false h3
   have e4:=of_eq_false h4
   have hm0:1≤m0∧m0≤31:=⟨by omega,by omega⟩
   have hm1:1≤m1∧m1≤31:=⟨by omega,by omega⟩
   obtain ⟨o1,o2,o3⟩:=or_mask (a:=m0) (b:=m1) ⟨by omega,hm0.2⟩ ⟨by omega,hm1.2⟩
   have o4:=adw hm0 hm1
   generalize hB:oG .or .i64 m0 m1=B at *
   have hBm:1≤B∧B≤31:=⟨o4,o2⟩
   obtain ⟨x1,x2,_⟩:=xK hm0 ha
   obtain ⟨y1,y2,_⟩:=xK hBm ha
   have hs1:f_ (jf m0 l) (jf B l)=true:=KY hm0 hBm ha ha (fun k k0 k5 h=>by rw [o3 k k0 k5,h];rfl) fun a h=>h
   have hl8:=(Ni ha).2
   have hsx:qF (jf m0 l):=Uk m0 l1 (by omega)
   obtain ⟨n,r,rfl⟩:∃ n r,t=n::r:=by
    cases t with
    | nil=>exact absurd rfl ht.rt.one.ne
    | cons n r=>exact ⟨n,r,rfl⟩
   have hn:(n::r)[0]?=some n:=rfl
   have hdt:List.drop 1 (List.take l.length l)=l.drop 1:=by rw [List.take_length]
   have hdl:(l.drop 1).length≤100000:=by rw [List.length_drop];omega
   have hat:allA (l.drop 1) 8=true:=by
    cases l with
    | nil=>exact ha
    | cons a l=>exact XH ha
   obtain ⟨w1,w2,_⟩:=xK hm0 hat
   have hs2:f_ (jf m0 l) (jf m0 (l.drop 1))=true:=KY hm0 hm0 ha hat (fun _ _ _ h=>h) fun a h=>List.mem_of_mem_drop h
   have hcx:=x1.cs
   have lx1:(jf m0 l).length+2*(jf B l).length≤50000:=by omega
   have lx2:(jf m0 l).length+2*(jf m0 (l.drop 1)).length≤50000:=by omega
   have lx3:(jf m0 l).length≤100000:=by omega
   have ll:l.length≤100000:=by omega
   have r1:=hr.len
   have r2:=hr.txt
   have r3:=hr.cnm
   by_cases hk:n.kind=2
   · obtain ⟨p1,p2,p3,p4⟩:=aaf ht hk
     have p4':f_ (nH (n::r)) (n::r)=decide (n.n=1):=p4
     have hoT:nH (n::r)=(⟨2,n.many,n.name,n.s,1,n.c⟩:dY)::r:=by simp [nH,← hk]
     have hz:∀ o:Obj,eY 1 0 [⟨51,11,aL ⟨2,n.many,n.name,n.s,1,n.c⟩::r.map aL,true,2⟩,o] (.bG 0 2)=aA (nH (n::r)):=fun o=>by rw [hoT];exact IA (⟨2,n.many,n.name,n.s,1,n.c⟩::r) 2 51 [o]
     have hyc:∀ y ∈ aL n::r.map aL,y.cells.length=11∧y.cells.all PV.storable=true:=fun y hy=>by
      rcases List.mem_cons.1 hy with rfl | hy
      · exact ⟨rfl,rfl⟩
      · obtain ⟨m,_,rfl⟩:=List.mem_map.1 hy
        exact ⟨rfl,rfl⟩
     simp only [length_cons] at afK p2 r1
     have r1':r.length≤4611686018427387903:=by omega
     have rb1:(r.length+1)*120≤140737488355328:=by omega
     have rb2:r.length≤9223372036854775806:=by omega
     have rb3:(0:Int)<((r.length+1:Nat):Int):=by omega
     have lo1:(n::r).length+2*(nH (n::r)).length≤50000:=by rw [p2,length_cons];omega
     have lo2:(nH (n::r)).length+2*(n::r).length≤50000:=by rw [p2,length_cons];omega
     have l1':0<(l.length:Int)→(1:Int)≤(l.length:Int):=fun h=>by omega
     rcases tf (0<(l.length:Int)) with hlen | hlen <;> cases hg:o_ (jf m0 l)
     all_goals
      simp(maxSteps:=400000)only[↓av,ax,BEq.rfl,reduceIte,reduceCtorEq,Nat.reduceLT,reduceAdd,reduceSub,reduceMul,Nat.reduceBEq,reduceLeDiff,reduceToNat,reduceLE,hQ,zf,QN,q0,q1,h1,h2,h3,h4,↓vk,ha,↓t_,t40,hf,↓gW,↓orR,hB,↓uq,↓nW,hg,hn,hk,hlen,hdt,↓D6,hs1,hs2,gM,gV,r_,bY,dO]
      repeat' (first | exact l0' | exact l1 | exact r1' | exact r2 | exact r3 | exact ll | exact hsx | exact lx3 | exact hcx | exact x1 | exact y1 | exact lx1 | exact hdl | exact w1 | exact lx2 | exact hyc | exact l1' (of_eq_true hlen) | exact Int.le_refl _ | exact rb1 | exact rb2 | exact rb3 | refine And.intro ?_ ?_)
     all_goals
      refine aN _ (Weak.freeze 1 0 (zero_le _) _) ?_
      simp(maxSteps:=400000)only[↓av,ax,BEq.rfl,reduceIte,reduceCtorEq,Nat.reduceLT,reduceAdd,reduceSub,reduceMul,Nat.reduceBEq,reduceLeDiff,reduceToNat,reduceLE,hQ,hz,↓gW,↓D6,p3,p4',hn]
      exact ⟨ht,p1,lo1,p1,ht,lo2⟩
   · have hk':=eq_false hk
     simp only [length_cons] at r1
     have r1':r.length≤4611686018427387903:=by omega
     have l1':0<(l.length:Int)→(1:Int)≤(l.length:Int):=fun h=>by omega
     rcases tf (0<(l.length:Int)) with hlen | hlen <;> cases hg:o_ (jf m0 l)
     all_goals
      simp(maxSteps:=400000)only[↓av,ax,BEq.rfl,reduceIte,reduceCtorEq,Nat.reduceLT,reduceAdd,reduceSub,reduceMul,Nat.reduceBEq,reduceLeDiff,reduceToNat,reduceLE,hQ,zf,QN,q0,q1,h1,h2,h3,h4,↓vk,ha,↓t_,t40,hf,↓gW,↓orR,hB,↓uq,↓nW,hg,hn,hk',hlen,hdt,↓D6,hs1,hs2]
      repeat' (first | exact l0' | exact l1 | exact r1' | exact r2 | exact r3 | exact ll | exact hsx | exact lx3 | exact hcx | exact x1 | exact y1 | exact lx1 | exact hdl | exact w1 | exact lx2 | exact l1' (of_eq_true hlen) | exact Int.le_refl _ | rfl | refine And.intro ?_ ?_)
end Lp
namespace Lp
open Go Go.Proofs
theorem aai (p:Int×Int) (l:List fQ) (t:aC) (hp:Z7 p) (hl:ZJ l) (hr:ZI t):ai Tryz.prog 6 [U6 p,bf l,aA t] [] (.bool true) []:=JW p l t hp hl hr
end Lp
namespace Lp
open Go
theorem ig {a b:Bool}(ha:a=true) (hb:b=true):(a && b)=true:=by rw [ha,hb];rfl
theorem adD {P:Program}{f:FuncId}{fn:Func}{s:ChangeSpec}{c:OpenClaim}
  (h0:(c.wf (OpenSpec.ofChange s))=true)
  (h1:(laidOutB P)=true)
  (h2:(mapsRowed P)=true)
  (h3:(fn.params.all (P.readableRec ·))=true)
  (h4:(namedTie P c.named s.vars)=true)
  (h5:((c.stops==[]))=true)
  (h6:((P.stops==[]))=true)
  (h7:((c.knobs==[]))=true)
  (h8:((P.stopKnobs==[]))=true)
  (h9:((c.inPlace==P.inPlace f))=true)
  (h10:((c.unfollowed==P.unfollowed f))=true)
  (h11:((c.recurses==P.recurses f))=true)
  (h12:((c.named==P.varsNamed f))=true)
  (h13:((c.maps==(fn.params.toList++s.plain.varTypes P).any (P.mapsRec ·)))=true)
  (h14:((c.ifaces==(fn.params.toList++s.plain.varTypes P).any (P.ifacesRec ·)))=true)
  (h15:((c.mapsOut==P.mapsAmong fn.resultTypes.toList))=true)
  (h16:((c.loops==(fn.params.toList++s.plain.varTypes P).any (P.loopsFrom ·)))=true)
  (h17:((c.wideKeys==(fn.params.toList++s.plain.varTypes P++fn.resultTypes.toList).any (P.wideKeysFrom ·)))=true)
  (h18:(s.vars.all (P.varReadable ·))=true)
  (h19:(fn.resultTypes.all (fun t=>P.readableRec t && decide (t<P.types.size)))=true)
  (h20:((c.ifacesOut==fn.resultTypes.toList.any (P.ifacesRec ·)))=true)
  (h21:((c.loopsOut==fn.resultTypes.toList.any (P.loopsFrom ·)))=true)
  (h22:((c.plainKeys==P.plainKeys))=true)
  (h23:(c.shortTexts.isNone)=true)
  (h24:(P.stopsHeard)=true)
  (h25:(P.mayEnter)=true)
  (h26:((c.lifted==P.liftsFinal))=true)
  (h27:((P.make==some c.make))=true)
  (h28:((c.kinds==(if c.domain.isEmpty then [] else fn.params.toList.map fun t=>match P.underlying t with | some (.int k)=>some k | _=>none)))=true)
  (h29:((c.pinned==c.pinnedBy))=true)
  (h30:((c.veiled==(fn.params.toList++s.plain.varTypes P++fn.resultTypes.toList).any (P.veiledRec ·)))=true)
  (h31:(c.veiledFits P fn.params.toList (fn.params.toList++s.plain.varTypes P++fn.resultTypes.toList))=true):joinedFacts P f fn s c=true:=by
 unfold joinedFacts
 exact (ig (ig (ig (ig (ig (ig (ig (ig (ig (ig (ig (ig (ig (ig (ig (ig (ig (ig (ig (ig (ig (ig (ig (ig (ig (ig (ig (ig (ig (ig (ig h0 h1) h2) h3) h4) h5) h6) h7) h8) h9) h10) h11) h12) h13) h14) h15) h16) h17) h18) h19) h20) h21) h22) h23) h24) h25) h26) h27) h28) h29) h30) h31)
end Lp
