/-
  Part 6 of what the statement rests on: LpTC2, LpTB4, LpTD1, LpTF0, LpTF2, LpTE1, LpTE2, LpTE3, LpTF3, LpTF4, LpTF5, LpE9, LpRd, LpMA1, LpTie, LpRdA, LpRdY, LpC11, LpC12, LpC13, LpH22, LpTG0, LpX2, LpD13, LpMf, LpX3, LpTG1, LpTG2, LpTG3, LpTG4, LpTG5, LpQA0, LpQB1, LpIns0, LpInsT, LpTF1, LpQB2, LpQB3, LpQB4, LpS0, LpQB5, LpQB6, LpQB7, LpQB8, LpQB9, LpRdR, LpJn. No condition.
-/
import Derived.Test.YtgfdogdnlgfcpaaGreatDoorLp5
import Derived.Lib.LaidIn
import Derived.Lib.LaidU8T
import Derived.Deep.DeepHandedRow
import Derived.Deep.DeepWitnessRowRef
import Derived.ProofKit
import Derived.SizedLaws
import Derived.JoinedCond
import Derived.OpenShut
import Derived.Laws.CopyRow
import Derived.Shelf.Spec.SlicesInsertGrow
import Derived.Lib.Overlaps
import Derived.Lib.JoinLaws
import Derived.Lib.AppendZeros
import Derived.Laws.LoneSync
import Derived.ChangeKeysEq
import Derived.JoinedOf

set_option linter.all false
set_option maxHeartbeats 8000000
set_option maxRecDepth 100000
namespace Lp
open Go Go.Proofs Go.RowKit
open List (append_assoc append_nil getElem_mem length_append length_cons length_nil map_nil take_succ_cons take_zero)
open Nat (lt_or_ge reduceAdd reduceLeDiff reduceMul reduceSub)
open Int (reduceLE reduceToNat)
theorem U7 {neg:Bool}{f:List UInt8}{e:Int}(h:¬ (dJ neg f e).2=0):(dJ neg f e).1=aW:=by
 unfold dJ at h ⊢
 split
 · rfl
 · rename_i h1
   rw [if_neg h1] at h
   split
   · rename_i h2;rw [if_pos h2] at h;exact absurd rfl h
   · rename_i h2
     rw [if_neg h2] at h
     split
     · rfl
     · rename_i h3
       rw [if_neg h3] at h
       split
       · rfl
       · rename_i h4;rw [if_neg h4] at h;exact absurd rfl h
theorem Gs (n:Nd) (above:Bool) (hn:Lg n):ai Tryz.prog 98 [av n,.bool above] [] (dI n above) []:=by
 refine xP.Gl (T:=aU Tryz.prog [(112,mr),(109,j6),(110,BA),(111,tX)]) 0 hD (aj (af Ot (af Ll (af Q9 (af Q_ ah))))) aY (by decide) (by decide) fun Q hQ=>?_
 by_cases hs:n.s=[]
 · have hr:dI n above=.bT [av ⟨3,0,[],[49],!above,-1000⟩,.bool true]:=by simp [dI,cO,hs]
   (conv=>arg 4;cbv);simp(maxSteps:=400000)only[↓aQ,aR,BEq.rfl,reduceIte,reduceCtorEq,Nat.reduceLT,reduceAdd,reduceSub,reduceMul,Nat.reduceBEq,reduceLeDiff,reduceToNat,reduceLE,hQ,hs,hr,bI,bJ]
   repeat' (first | omega | exact rfl | refine ⟨?_,?_⟩)
 have hs':(n.s=[])=False:=eq_false hs
 have l1:=hn.len
 have l2:=hn.lo
 have l3:=hn.hi
 have hE:∀ T:Int,jH n above=max (T-100) (-1000)→(if (-1000:Int) > T-100 then (-1000:Int) else T-100)=jH n above:=fun T h=>by rw [h];split <;> omega
 have l4:(0:Int)<n.s.length:=by
  cases h:n.s with
  | nil=>exact absurd h hs
  | cons x r=>simp
 have hEb:-1000≤jH n above∧jH n above≤1000∧jH n above≤n.e:=by
  unfold jH
  split <;> omega
 generalize RX:jH n above=E at *
 have D7:lF n E=n.s++List.replicate (n.e-E).toNat 48:=rfl
 have hpl:(lF n E).length≤3000:=by rw [D7,length_append,List.length_replicate];omega
 have hpf:fI (lF n E)=true:=Dw _ _ hn.fI (Oo _)
 have hpt:0<(Lib.trimRightB (lF n E) 48).length:=by rw [D7,Jv];exact hn.last hs
 have hul:=U5 (lF n E)
 have hdl:=Jw (lF n E)
 have fin:∀ X:List UInt8,dI n above=.bT [av (dJ n.neg X E).1,.bool (decide ((dJ n.neg X E).2=0))]→(¬ (dJ n.neg X E).2=0→dI n above=.bT [av ⟨0,0,[],[],false,0⟩,.bool false])∧((dJ n.neg X E).2=0→dI n above=.bT [av (dJ n.neg X E).1,.bool true]):=fun X h=>
  ⟨fun g=>by rw [h,U7 g,decide_eq_false g];rfl,fun g=>by rw [h,decide_eq_true g]⟩
 by_cases hg:n.neg=above
 · have hg':(n.neg=above)=True:=eq_true hg
   have hr:dI n above=.bT [av (dJ n.neg (nI (lF n E)) E).1,.bool (decide ((dJ n.neg (nI (lF n E)) E).2=0))]:=by
    simp only [dI,cO,if_neg hs,if_pos hg,RX]
   obtain ⟨f1,f2⟩:=fin _ hr
   generalize hX:nI (lF n E)=X at *
   by_cases h49:n.s=[49]
   · have Lh:(n.s=[49])=True:=eq_true h49
     have hEe:=hE (n.s.length+n.e-1) (by rw [← RX];unfold jH;rw [if_pos ⟨hg,h49⟩])
     by_cases hM:(dJ n.neg X E).2=0
     · have hM':=eq_true hM
       have hr2:=f2 hM
       (conv=>arg 4;cbv);simp(maxSteps:=400000)only[↓aQ,aR,BEq.rfl,reduceIte,reduceCtorEq,Nat.reduceLT,reduceAdd,reduceSub,reduceMul,Nat.reduceBEq,reduceLeDiff,reduceToNat,reduceLE,hQ,↓mr,↓j6,↓tX,hs',hg',Lh,bI,bJ,bY,Hr,Ht,gM,hEe,hX,dO,hM',hr2]
       repeat' (first | omega | exact hpf | exact hpt | exact rfl | refine ⟨?_,?_⟩)
     · have hM':=eq_false hM
       have hr2:=f1 hM
       (conv=>arg 4;cbv);simp(maxSteps:=400000)only[↓aQ,aR,BEq.rfl,reduceIte,reduceCtorEq,Nat.reduceLT,reduceAdd,reduceSub,reduceMul,Nat.reduceBEq,reduceLeDiff,reduceToNat,reduceLE,hQ,↓mr,↓j6,↓tX,hs',hg',Lh,bI,bJ,bY,Hr,Ht,gM,hEe,hX,dO,hM',hr2]
       repeat' (first | omega | exact hpf | exact hpt | exact rfl | refine ⟨?_,?_⟩)
   · have Lh:(n.s=[49])=False:=eq_false h49
     have hEe:=hE (n.s.length+n.e) (by rw [← RX];unfold jH;rw [if_neg fun h=>h49 h.2])
     by_cases hM:(dJ n.neg X E).2=0
     · have hM':=eq_true hM
       have hr2:=f2 hM
       (conv=>arg 4;cbv);simp(maxSteps:=400000)only[↓aQ,aR,BEq.rfl,reduceIte,reduceCtorEq,Nat.reduceLT,reduceAdd,reduceSub,reduceMul,Nat.reduceBEq,reduceLeDiff,reduceToNat,reduceLE,hQ,↓mr,↓j6,↓tX,hs',hg',Lh,bI,bJ,bY,Hr,Ht,gM,hEe,hX,dO,hM',hr2]
       repeat' (first | omega | exact hpf | exact hpt | exact rfl | refine ⟨?_,?_⟩)
     · have hM':=eq_false hM
       have hr2:=f1 hM
       (conv=>arg 4;cbv);simp(maxSteps:=400000)only[↓aQ,aR,BEq.rfl,reduceIte,reduceCtorEq,Nat.reduceLT,reduceAdd,reduceSub,reduceMul,Nat.reduceBEq,reduceLeDiff,reduceToNat,reduceLE,hQ,↓mr,↓j6,↓tX,hs',hg',Lh,bI,bJ,bY,Hr,Ht,gM,hEe,hX,dO,hM',hr2]
       repeat' (first | omega | exact hpf | exact hpt | exact rfl | refine ⟨?_,?_⟩)
 · have hg':(n.neg=above)=False:=eq_false hg
   have hr:dI n above=.bT [av (dJ n.neg (qA (lF n E)) E).1,.bool (decide ((dJ n.neg (qA (lF n E)) E).2=0))]:=by
    rw [Rb]
    simp only [dI,cO,if_neg hs,if_neg hg,RX]
   obtain ⟨f1,f2⟩:=fin _ hr
   have hEe:=hE (n.s.length+n.e) (by rw [← RX];unfold jH;rw [if_neg fun h=>hg h.1])
   generalize hX:qA (lF n E)=X at *
   by_cases hM:(dJ n.neg X E).2=0
   · have hM':=eq_true hM
     have hr2:=f2 hM
     (conv=>arg 4;cbv);simp(maxSteps:=400000)only[↓aQ,aR,BEq.rfl,reduceIte,reduceCtorEq,Nat.reduceLT,reduceAdd,reduceSub,reduceMul,Nat.reduceBEq,reduceLeDiff,reduceToNat,reduceLE,hQ,↓mr,↓j6,↓BA,hs',hg',bI,bJ,bY,Hr,Ht,gM,hEe,hX,dO,hM',hr2]
     repeat' (first | omega | exact hpf | exact hpt | exact rfl | refine ⟨?_,?_⟩)
   · have hM':=eq_false hM
     have hr2:=f1 hM
     (conv=>arg 4;cbv);simp(maxSteps:=400000)only[↓aQ,aR,BEq.rfl,reduceIte,reduceCtorEq,Nat.reduceLT,reduceAdd,reduceSub,reduceMul,Nat.reduceBEq,reduceLeDiff,reduceToNat,reduceLE,hQ,↓mr,↓j6,↓BA,hs',hg',bI,bJ,bY,Hr,Ht,gM,hEe,hX,dO,hM',hr2]
     repeat' (first | omega | exact hpf | exact hpt | exact rfl | refine ⟨?_,?_⟩)
def kU:dN:=fun args objs K=>match args with
 | [a0,.bool above]=>gu av a0 (HK.mk:HK fun n=>(Lg n)∧K (dI n above) objs 0)
 | _=>False
theorem Ig:aD Tryz.prog 98 (kU):=by
 intro args objs K h
 unfold kU at h
 split at h
 · rename_i a0 above
   obtain ⟨n,rfl,h1,hk⟩:=h
   exact ⟨_,_,_,.pure _ rfl (Gs n above h1),hk⟩
 · exact h.elim
theorem SB (objs:List Obj) (K:KT):(∀ k,bD D 27 [(0,.int .i64 k)] objs K=K (av ⟨k,0,[],[],false,0⟩) objs 0)∧(∀ k s,bD D 27 [(0,.int .i64 k),(3,.str s)] objs K=K (av ⟨k,0,[],s,false,0⟩) objs 0):=by
 have z:aF (D 27)=av ⟨0,0,[],[],false,0⟩:=by kernel_rfl
 have a:(D 27).agg=true:=by kernel_rfl
 simp only [bL] at z a
 refine ⟨fun k=>?_,fun k s=>?_⟩
 all_goals
  simp [bD,kR,a,z,bL,lJ,av,PV.isAgg,pE,PV.cells,PV.storable,PV.kW,PV.pure]
def D_:List Nd:=[⟨0,0,[],[],false,0⟩,⟨1,0,[],[],false,0⟩,⟨2,0,[],[],false,0⟩,⟨3,0,[],[],false,0⟩]
theorem Rl (v:Vl) (ver:Nat) (t:TypeId) (rest:List Obj):fJ 1 0 (⟨t,6,v.map av,true,ver⟩::rest) (.bO 0 ver)=aM v:=Us v ver t rest
theorem xb {n i:Nat}(h:n≤1000000) (hi:i≤1000000):((n+1)*64≤140737488355328∧n≤9223372036854775806)∧((n+1+1)*64≤140737488355328∧n≤9223372036854775805)∧
  ((n+1+1+1)*64≤140737488355328∧n≤9223372036854775804)∧(-9223372036854775808≤(i:Int)+1∧(i:Int)+1≤9223372036854775807):=by omega
theorem Ls (l:List f_) (hl:l.length≤100000) (hn:∀ a ∈ l,a.c.kind=3→Lg a.c) (hs:∀ a ∈ l,a.c.s.length≤1000000000):ai Tryz.prog 71 [bg l] [] (aM (gJ l)) []:=by
 refine rT.bE (T:=aU Tryz.prog [(98,kU)]) 1 hD (aj (af Ig ah)) aY (by decide) fun Q hQ=>?_
 (conv=>arg 4;cbv);simp(maxSteps:=400000)only[↓aQ,aR,BEq.rfl,reduceIte,reduceCtorEq,Nat.reduceLT,reduceAdd,reduceSub,reduceMul,Nat.reduceBEq,reduceLeDiff,reduceToNat,reduceLE,hQ,SB,Hr,Ht]
 refine aH (fun m S=>∃ i ver:Nat,i+m=l.length∧S=⟨dU 98 [(0,bg l),(3,.bO 0 ver),(4,.int .i64 i)],[⟨27,6,(D_++jI (l.take i)).map av,true,ver⟩]⟩) l.length ⟨0,1,by omega,?_⟩ ?_ (hz:=Nat.zero_le _)
 · simp only [dh,keepR,reduceAdd,oC,Nat.reduceBEq,map_nil]
   rfl
 rintro m S ⟨i,ver,him,rfl⟩
 have zi:(0≤(i:Int))=True:=eq_true (by omega)
 have hcl:=rZ (l.take i)
 rw [List.length_take] at hcl
 rcases lt_or_ge i l.length with h | h
 · have hlt:((i:Int)<(l.length:Int))=True:=eq_true (by omega)
   have hgi:=List.getElem?_eq_getElem h
   have hni:=hn _ (getElem_mem h)
   generalize l[i]=a at hgi hni
   have htk:=Gm hgi
   have hA:∀ (A B:List Nd),A.map av++B.map av=(A++B).map av:=fun A B=>by rw [List.map_append]
   by_cases hk:a.c.kind=3
   rotate_left 1
   · have hk':=eq_false hk
     have e1:BB a=[]:=if_neg hk
     rw [e1,append_nil] at htk
     simp(maxSteps:=400000)only[↓aQ,aR,BEq.rfl,reduceIte,reduceCtorEq,Nat.reduceLT,reduceAdd,reduceSub,reduceMul,Nat.reduceBEq,reduceLeDiff,reduceToNat,reduceLE,hQ,hlt,zi,hgi,hk',UU,take_succ_cons,take_zero,pU]
     exact ⟨⟨by omega,by omega⟩,m-1,by omega,i+1,ver,by omega,by rw [htk,Int.natCast_add,Int.natCast_one]⟩
   have hk':=eq_true hk
   have hnr:=hni hk
   have e1:=CP hk
   generalize hX:D_++jI (l.take i)=X at *
   have hXl:X.length≤1000000:=by rw [← hX,length_append];have:D_.length=4:=rfl;omega
   have hX':D_++jI (l.take (i+1))=X++BB a:=by rw [htk,← append_assoc,hX]
   have s1:∀ x:Nd,X.map av++[av x]=(X++[x]).map av:=fun x=>by simp
   have fin:∀ (v:Nat) (Y:List Nd),D_++jI (l.take (i+1))=Y→∃ m',m'<m∧∃ Ev aak:Nat,Ev+m'=l.length∧(⟨dU 98 [(0,bg l),(3,.bO 0 v),(4,.int .i64 ((i:Int)+1))],[⟨27,6,Y.map av,true,v⟩]⟩:St)=⟨dU 98 [(0,bg l),(3,.bO 0 aak),(4,.int .i64 Ev)],[⟨27,6,(D_++jI (l.take Ev)).map av,true,aak⟩]⟩:=fun v Y hy=>
    ⟨m-1,by omega,i+1,v,by omega,by rw [hy,Int.natCast_add,Int.natCast_one]⟩
   rw [e1] at hX'
   obtain ⟨x1,x2,x3,iw⟩:=xb hXl (Nat.le_trans (Nat.le_of_lt h) (Nat.le_trans hl (by decide:100000≤1000000)))
   cases hb1:(cO a.c true).2 with
   | false=>
    cases hb2:(cO a.c false).2 with
    | false=>
     have hX2:=hX'
     simp only [EG,hb1,hb2,Bool.false_eq_true,if_true,if_false,append_nil] at hX2
     simp(maxSteps:=400000)only[↓aQ,aR,BEq.rfl,reduceIte,reduceCtorEq,Nat.reduceLT,reduceAdd,reduceSub,reduceMul,Nat.reduceBEq,reduceLeDiff,reduceToNat,reduceLE,hQ,hlt,zi,hgi,hk',↓kU,dI,gM,hb1,hb2,bI,bJ,bY,Hr,Ht,uI,UU,take_succ_cons,take_zero,pU,length_append,length_cons,length_nil]
     exact ⟨x1.1,x1.2,hnr,hnr,iw,fin _ _ (by rw [hX2])⟩
    | true=>
     have hX2:=hX'
     simp only [EG,hb1,hb2,Bool.false_eq_true,if_true,if_false,append_nil] at hX2
     simp(maxSteps:=400000)only[↓aQ,aR,BEq.rfl,reduceIte,reduceCtorEq,Nat.reduceLT,reduceAdd,reduceSub,reduceMul,Nat.reduceBEq,reduceLeDiff,reduceToNat,reduceLE,hQ,hlt,zi,hgi,hk',↓kU,dI,gM,hb1,hb2,bI,bJ,bY,Hr,Ht,uI,UU,take_succ_cons,take_zero,pU,length_append,length_cons,length_nil]
     exact ⟨x1.1,x1.2,hnr,hnr,x2.1,x2.2,iw,fin _ _ (by rw [hX2];simp only [append_assoc])⟩
   | true=>
    cases hb2:(cO a.c false).2 with
    | false=>
     have hX2:=hX'
     simp only [EG,hb1,hb2,Bool.false_eq_true,if_true,if_false,append_nil] at hX2
     simp(maxSteps:=400000)only[↓aQ,aR,BEq.rfl,reduceIte,reduceCtorEq,Nat.reduceLT,reduceAdd,reduceSub,reduceMul,Nat.reduceBEq,reduceLeDiff,reduceToNat,reduceLE,hQ,hlt,zi,hgi,hk',↓kU,dI,gM,hb1,hb2,bI,bJ,bY,Hr,Ht,uI,UU,take_succ_cons,take_zero,pU,length_append,length_cons,length_nil]
     exact ⟨x1.1,x1.2,hnr,x2.1,x2.2,hnr,iw,fin _ _ (by rw [hX2];simp only [append_assoc])⟩
    | true=>
     have hX2:=hX'
     simp only [EG,hb1,hb2,Bool.false_eq_true,if_true,if_false,append_nil] at hX2
     simp(maxSteps:=400000)only[↓aQ,aR,BEq.rfl,reduceIte,reduceCtorEq,Nat.reduceLT,reduceAdd,reduceSub,reduceMul,Nat.reduceBEq,reduceLeDiff,reduceToNat,reduceLE,hQ,hlt,zi,hgi,hk',↓kU,dI,gM,hb1,hb2,bI,bJ,bY,Hr,Ht,uI,UU,take_succ_cons,take_zero,pU,length_append,length_cons,length_nil]
     exact ⟨x1.1,x1.2,hnr,x2.1,x2.2,hnr,x3.1,x3.2,iw,fin _ _ (by rw [hX2];simp only [append_assoc])⟩
 have hi:i=l.length:=by omega
 subst hi
 have hlt:((l.length:Int)<(l.length:Int))=False:=eq_false (by omega)
 rw [List.take_of_length_le (Nat.le_refl _)]
 rw [List.take_of_length_le (Nat.le_refl _)] at hcl
 simp(maxSteps:=400000)only[↓aQ,aR,BEq.rfl,reduceIte,reduceCtorEq,Nat.reduceLT,reduceAdd,reduceSub,reduceMul,Nat.reduceBEq,reduceLeDiff,reduceToNat,reduceLE,hQ,hlt,SB,Hr,Ht]
 have hc0:D_.length=4:=rfl
 have hY:(D_++jI l).map av++[av ⟨4,0,[],[],false,0⟩]=(D_++jI l++[(⟨4,0,[],[],false,0⟩:Nd)]).map av:=by simp
 rw [hY]
 refine ⟨by omega,by omega,?_⟩
 generalize hX:D_++jI l++[(⟨4,0,[],[],false,0⟩:Nd)]=X
 have hXl:X.length≤300005:=by rw [← hX];simp [D_];omega
 refine aH (fun m S=>∃ i ver:Nat,i+m=l.length∧S=⟨dU 98 [(0,bg l),(3,.bO 0 ver),(9,.int .i64 i)],[⟨27,6,(X++kV (l.take i)).map av,true,ver⟩]⟩) l.length ⟨0,ver+1,by omega,?_⟩ ?_
 · simp only [dh,keepR,reduceAdd,oC,Nat.reduceBEq,map_nil]
   simp [kV]
 rintro m' S ⟨i,H9,him',rfl⟩
 have zi:(0≤(i:Int))=True:=eq_true (by omega)
 have hsl:=xg (l.take i)
 rw [List.length_take] at hsl
 rcases lt_or_ge i l.length with h' | h'
 · have hlt:((i:Int)<(l.length:Int))=True:=eq_true (by omega)
   have hgi:=List.getElem?_eq_getElem h'
   have hsi:=hs _ (getElem_mem h')
   generalize l[i]=a at hgi hsi
   have htk:=Gn hgi
   by_cases hk:a.c.kind=4
   · have hk':=eq_true hk
     have e1:BD a=[a.c,⟨4,0,[],a.c.s++[0],false,0⟩]:=if_pos hk
     simp(maxSteps:=400000)only[↓aQ,aR,BEq.rfl,reduceIte,reduceCtorEq,Nat.reduceLT,reduceAdd,reduceSub,reduceMul,Nat.reduceBEq,reduceLeDiff,reduceToNat,reduceLE,hQ,hlt,zi,hgi,hk',SB,Hr,Ht]
     have hrow:∀ y,y ∈ [av a.c,av ⟨4,0,[],a.c.s++[0],false,0⟩]→y.cells.length=6∧y.cells.all PV.storable=true:=fun y hy=>by
      simp only [List.mem_cons,List.not_mem_nil,or_false] at hy
      rcases hy with rfl | rfl <;> exact ⟨rfl,rfl⟩
     have hXs:X.length+(kV (l.take i)).length≤600000:=by omega
     exact ⟨by omega,hrow,by omega,by omega,rfl,⟨by omega,by omega⟩,m'-1,by omega,i+1,H9+1,by omega,by
      rw [htk,e1,← append_assoc,List.map_append (l₁:=X++kV _),Int.natCast_add,Int.natCast_one];rfl⟩
   · have hk':=eq_false hk
     have e1:BD a=[]:=if_neg hk
     rw [e1,append_nil] at htk
     simp(maxSteps:=400000)only[↓aQ,aR,BEq.rfl,reduceIte,reduceCtorEq,Nat.reduceLT,reduceAdd,reduceSub,reduceMul,Nat.reduceBEq,reduceLeDiff,reduceToNat,reduceLE,hQ,hlt,zi,hgi,hk',SB,Hr,Ht]
     repeat' (first | omega | exact ⟨m'-1,by omega,i+1,H9,by omega,by rw [htk];rfl⟩ | refine ⟨?_,?_⟩)
 · have hlt:((i:Int)<(l.length:Int))=False:=eq_false (by omega)
   have hr:gJ l=X++kV (l.take i):=by
    rw [List.take_of_length_le h',← hX];simp [gJ,D_]
   simp(maxSteps:=400000)only[↓aQ,aR,BEq.rfl,reduceIte,reduceCtorEq,Nat.reduceLT,reduceAdd,reduceSub,reduceMul,Nat.reduceBEq,reduceLeDiff,reduceToNat,reduceLE,hQ,hlt,Rl,hr]
def BI:dN:=fun args objs K=>match args with
 | [a0]=>gu bg a0 (HK.mk:HK fun l=>(l.length≤100000)∧(∀ a ∈ l,a.c.kind=3→Lg a.c)∧(∀ a ∈ l,a.c.s.length≤1000000000)∧K (aM (gJ l)) objs 0)
 | _=>False
theorem OB:aD Tryz.prog 71 (BI):=by
 intro args objs K h
 unfold BI at h
 split at h
 · rename_i a0
   obtain ⟨l,rfl,h1,h2,h3,hk⟩:=h
   exact ⟨_,_,_,.pure _ rfl (Ls l h1 h2 h3),hk⟩
 · exact h.elim
def vT:dN:=fun args objs K=>match args with
 | [.int .i64 mask,a1,a2]=>gu bg a1 (HK.mk:HK fun l=>gu av a2 (HK.mk:HK fun n=>(0≤mask∧mask≤31)∧(l.length≤1000000)∧(∀ a ∈ l,eP a.c)∧(oP n)∧(n.s.length≤1000000)∧K (.bool (cK mask l n)) objs 0))
 | _=>False
theorem OC:aD Tryz.prog 40 (vT):=by
 intro args objs K h
 unfold vT at h
 split at h
 · rename_i mask a1 a2
   obtain ⟨l,rfl,n,rfl,h1,h2,h3,h4,h5,hk⟩:=h
   exact ⟨_,_,_,.pure _ rfl (K7 mask l n ⟨h1.1,by omega⟩ h2 h3 h4 h5),hk⟩
 · exact h.elim
theorem Ih (mask:Int) (l:List f_) (hm:0≤mask∧mask≤31) (hl:l.length≤100000) (hc:∀ a ∈ l,eP a.c) (hs:∀ a ∈ l,a.c.s.length≤500000):ai Tryz.prog 37 [.int .i64 mask,bg l] [] (jU mask l) []:=by
 refine zC.Gl (T:=aU Tryz.prog [(71,BI),(40,vT)]) 0 hD (aj (af OB (af OC ah))) aY (by decide) (by decide) fun Q hQ=>?_
 have hcs:=Gr hc hs
 have hnr:∀ a ∈ l,a.c.kind=3→Lg a.c:=fun a ha hk=>(hc a ha).num hk
 have hsb:∀ a ∈ l,a.c.s.length≤1000000000:=fun a ha=>by have:=hs a ha;omega
 have hcl:(gJ l).length≤1000000:=by
  have h1:=rZ l
  have h2:=xg l
  simp only [gJ,length_append,length_cons,length_nil];omega
 (conv=>arg 4;cbv);simp(maxSteps:=400000)only[↓aQ,aR,BEq.rfl,reduceIte,reduceCtorEq,Nat.reduceLT,reduceAdd,reduceSub,reduceMul,Nat.reduceBEq,reduceLeDiff,reduceToNat,reduceLE,hQ,↓BI,bI,bJ]
 refine ⟨hl,hnr,hsb,?_⟩
 refine aH (fun m S=>∃ i:Nat,i+m=(gJ l).length∧(∀ (j:Nat) d,j<i→(gJ l)[j]?=some d→cK mask l d=false)∧S=⟨dU 28 [(0,.int .i64 mask),(1,bg l),(4,.bM 0 1 0 0),(6,aM (gJ l)),(7,.int .i64 i)],[⟨27,6,[av ⟨0,0,[],[],false,0⟩],true,1⟩]⟩) (gJ l).length ⟨0,by omega,fun j d h=>absurd h (Nat.not_lt_zero j),?_⟩ ?_
 · simp only [dh,keepR,reduceAdd,oC,Nat.reduceBEq,map_nil]
   rfl
 rintro m S ⟨i,him,hb,rfl⟩
 have zi:(0≤(i:Int))=True:=eq_true (by omega)
 rcases lt_or_ge i (gJ l).length with h | h
 · have hlt:((i:Int)<((gJ l).length:Int))=True:=eq_true (by omega)
   have hgi:=List.getElem?_eq_getElem h
   have hsi:=hcs _ (getElem_mem h)
   generalize (gJ l)[i]=c at hgi hsi
   cases hmem:cK mask l c with
   | true=>
    have hr:jU mask l=.bT [av c,.bool true]:=by simp [jU,Jz hgi hmem hb]
    simp(maxSteps:=400000)only[↓aQ,aR,BEq.rfl,reduceIte,reduceCtorEq,Nat.reduceLT,reduceAdd,reduceSub,reduceMul,Nat.reduceBEq,reduceLeDiff,reduceToNat,reduceLE,hQ,hlt,zi,hgi,↓vT,hmem,bI,bJ,bY,Hr,Ht,hr]
    repeat' (first | omega | exact hc | exact hsi.1 | exact rfl | refine ⟨?_,?_⟩)
   | false=>
    have hb':∀ (j:Nat) d,j<i+1→(gJ l)[j]?=some d→cK mask l d=false:=fun j d hj hd=>by
     rcases lt_or_ge j i with g | g
     · exact hb j d g hd
     · have:j=i:=by omega
       subst this
       rw [hgi] at hd;cases hd;exact hmem
    simp(maxSteps:=400000)only[↓aQ,aR,BEq.rfl,reduceIte,reduceCtorEq,Nat.reduceLT,reduceAdd,reduceSub,reduceMul,Nat.reduceBEq,reduceLeDiff,reduceToNat,reduceLE,hQ,hlt,zi,hgi,↓vT,hmem,bI,bJ,bY,Hr,Ht]
    repeat' (first | omega | exact hc | exact hsi.1 | exact ⟨m-1,by omega,i+1,by omega,hb',rfl⟩ | refine ⟨?_,?_⟩)
 · have hlt:((i:Int)<((gJ l).length:Int))=False:=eq_false (by omega)
   have hr:jU mask l=.bT [av ⟨0,0,[],[],false,0⟩,.bool false]:=by
    have:=Gq (mask:=mask) (l:=l) fun j d hd=>hb j d (by have:=(List.getElem?_eq_some_iff.1 hd).1;omega) hd
    simp [jU,this,aW]
   simp(maxSteps:=400000)only[↓aQ,aR,BEq.rfl,reduceIte,reduceCtorEq,Nat.reduceLT,reduceAdd,reduceSub,reduceMul,Nat.reduceBEq,reduceLeDiff,reduceToNat,reduceLE,hQ,hlt,bI,bJ,Hr,Ht,hr]
   repeat' (first | omega | exact rfl | refine ⟨?_,?_⟩)
def r9:dN:=fun args objs K=>match args with
 | [.int .i64 mask,a1]=>gu bg a1 (HK.mk:HK fun l=>(0≤mask∧mask≤31)∧(l.length≤100000)∧(∀ a ∈ l,eP a.c)∧(∀ a ∈ l,a.c.s.length≤500000)∧K (jU mask l) objs 0)
 | _=>False
theorem Lu:aD Tryz.prog 37 (r9):=by
 intro args objs K h
 unfold r9 at h
 split at h
 · rename_i mask a1
   obtain ⟨l,rfl,h1,h2,h3,h4,hk⟩:=h
   exact ⟨_,_,_,.pure _ rfl (Ih mask l h1 h2 h3 h4),hk⟩
 · exact h.elim
end Lp
namespace Lp
open Go Go.Proofs
open Nat (reduceAdd reduceLeDiff reduceMul reduceSub)
open Int (reduceLE reduceToNat toNat_natCast)
theorem JA {a:f_}(h:gY a=true) (hs:a.c.s.length≤500000):eP a.c:=by
 simp only [gY,Bool.and_eq_true] at h
 exact ⟨h.2,by omega⟩
theorem OD (t:aK) (hs:kD t) (hl5:t.length≤100000) (hc:∀ n ∈ t,n.c.s.length≤500000):ai Tryz.prog 16 [aA t] [] (.bool (qz t)) []:=by
 have hl:=hs.len
 refine Br.bE (T:=aU Tryz.prog [(14,jT),(38,mh),(37,r9)]) 0 hD (aj (af yC (af D5 (af Lu ah)))) aY (by decide) fun Q hQ=>?_
 cases hr:eO t with
 | false=>
  have hg:qz t=false:=by simp [qz,hr]
  (conv=>arg 4;cbv);simp(maxSteps:=400000)only[↓ax,ay,BEq.rfl,reduceIte,reduceCtorEq,Nat.reduceLT,reduceAdd,reduceSub,reduceMul,Nat.reduceBEq,reduceLeDiff,reduceToNat,reduceLE,hQ,↓jT,hr,hg]
  exact hs
 | true=>
  have hrt:=rV hr
  have ho:=hrt.one
  have hg:qz t=Y.fw GI t:=by simp [qz,hr]
  (conv=>arg 4;cbv);simp(maxSteps:=400000)only[↓ax,ay,BEq.rfl,reduceIte,reduceCtorEq,Nat.reduceLT,reduceAdd,reduceSub,reduceMul,Nat.reduceBEq,reduceLeDiff,reduceToNat,reduceLE,hQ,↓jT,hr]
  refine ⟨hs,?_⟩
  refine aH (fun m S=>∃ i:Nat,i+m=t.length∧Y.fw GI (t.drop i)=qz t∧S=⟨dU 35 [(0,aA t),(3,.int .i64 i)],[]⟩) t.length (hz:=Nat.zero_le _) ⟨0,by omega,by rw [hg];rfl,?_⟩ ?_
  · simp only [dh,keepR,reduceAdd,oC,Nat.reduceBEq,List.map_nil]
    rfl
  rintro m S ⟨i,him,hgd,rfl⟩
  rcases Nat.lt_or_ge i t.length with h | h
  · have hgi:=List.getElem?_eq_getElem h
    have hcx:=hc _ (List.getElem_mem h)
    generalize t[i]=n at hgi hcx
    have hd:=QN hgi
    rw [hgd] at hd
    have zi:(0≤(i:Int))=True:=eq_true (by omega)
    have hlt:((i:Int)<(t.length:Int))=True:=eq_true (by omega)
    have next:qz t=Y.fw GI (t.drop (i+1))→∃ m',m'<m∧∃ Ev:Nat,Ev+m'=t.length∧Y.fw GI (t.drop Ev)=qz t∧(⟨dU 35 [(0,aA t),(3,.int .i64 ((i:Int)+1))],[]⟩:St)=⟨dU 35 [(0,aA t),(3,.int .i64 Ev)],[]⟩:=fun e=>
     ⟨m-1,by omega,i+1,by omega,e.symm,rfl⟩
    by_cases hk:n.kind=1
    rotate_left 1
    · have hk':=eq_false hk
      have hla:w_ t i=true:=by
       obtain ⟨ps,c,_,_,h3,_⟩:=Y.qJ ho hgi
       have hd0:=List.drop_eq_getElem_cons h
       rw [List.getElem?_eq_getElem h] at hgi
       cases hgi
       simp only [w_,hd0,h3,GI]
       simp [hk]
      rw [hla,Bool.true_and] at hd
      have hst:=next hd
      simp(maxSteps:=400000)only[↓ax,ay,BEq.rfl,reduceIte,reduceCtorEq,Nat.reduceLT,reduceAdd,reduceSub,reduceMul,Nat.reduceBEq,reduceLeDiff,reduceToNat,reduceLE,hQ,hlt,zi,hgi,hk']
      repeat' (first | omega | exact hst | refine ⟨?_,?_⟩)
    · have hk':=eq_true hk
      obtain ⟨ps,p1,p2,p3,p4,p5,p6,p7⟩:=Sw hrt hgi hk
      have hat:ny t i=ps.flatten.map iy:=by simp only [ny,hgi,hk,if_true,p2]
      have hal:(ny t i).length≤100000:=by rw [hat,List.length_map,p2,List.length_take,List.length_drop];omega
      have hmem:∀ x ∈ ps.flatten,x ∈ t:=fun x hx=>by rw [p2] at hx;exact List.mem_of_mem_drop (List.mem_of_mem_take hx)
      have hsm:∀ a ∈ ny t i,a.c.s.length≤500000:=fun a ha=>by
       rw [hat] at ha
       obtain ⟨x,hx,rfl⟩:=List.mem_map.1 ha
       exact hc x (hmem x hx)
      have hcm:∀ a ∈ ny t i,eP a.c:=fun a ha=>by
       have hsa:=hsm a ha
       rw [hat] at ha
       obtain ⟨x,hx,rfl⟩:=List.mem_map.1 ha
       exact JA (p7 x hx) hsa
      have hla:w_ t i=(lG n.n (ny t i)).2:=by
       have hd0:=List.drop_eq_getElem_cons h
       have hx:=hgi
       rw [List.getElem?_eq_getElem h] at hx
       cases hx
       simp only [w_,hd0,p1,GI,hat]
       simp [hk]
      rw [hla] at hd
      cases hls:(lG n.n (ny t i)).2 with
      | false=>
       rw [hls] at hd
       have hr2:qz t=false:=by rw [hd];rfl
       simp(maxSteps:=400000)only[↓ax,ay,BEq.rfl,reduceIte,reduceCtorEq,Nat.reduceLT,reduceAdd,reduceSub,reduceMul,Nat.reduceBEq,reduceLeDiff,reduceToNat,reduceLE,hQ,hlt,zi,hgi,hk',↓mh,toNat_natCast,↓r9,jU,gM,bI,bJ,Hr,Ht,hls,hr2]
       repeat' (first | omega | exact hcm | exact hsm | exact ho | exact rfl | refine ⟨?_,?_⟩)
      | true=>
       rw [hls,Bool.true_and] at hd
       have hst:=next hd
       simp(maxSteps:=400000)only[↓ax,ay,BEq.rfl,reduceIte,reduceCtorEq,Nat.reduceLT,reduceAdd,reduceSub,reduceMul,Nat.reduceBEq,reduceLeDiff,reduceToNat,reduceLE,hQ,hlt,zi,hgi,hk',↓mh,toNat_natCast,↓r9,jU,gM,bI,bJ,Hr,Ht,hls]
       repeat' (first | omega | exact hcm | exact hsm | exact ho | exact hst | exact rfl | refine ⟨?_,?_⟩)
  · have hlt:((i:Int)<(t.length:Int))=False:=eq_false (by omega)
    have hr2:qz t=true:=by rw [← hgd,List.drop_eq_nil_of_le h];rfl
    simp(maxSteps:=400000)only[↓ax,ay,BEq.rfl,reduceIte,reduceCtorEq,Nat.reduceLT,reduceAdd,reduceSub,reduceMul,Nat.reduceBEq,reduceLeDiff,reduceToNat,reduceLE,hQ,hlt,hr2]
def xh:dN:=fun args objs K=>match args with
 | [a0]=>gu aA a0 (HK.mk:HK fun t=>(kD t)∧(t.length≤100000)∧(∀ n ∈ t,n.c.s.length≤500000)∧K (.bool (qz t)) objs 0)
 | _=>False
theorem Lv:aD Tryz.prog 16 (xh):=by
 intro args objs K h
 unfold xh at h
 split at h
 · rename_i a0
   obtain ⟨t,rfl,h1,h2,h3,hk⟩:=h
   exact ⟨_,_,_,.pure _ rfl (OD t h1 h2 h3),hk⟩
 · exact h.elim
def Gt (t:aK) (k:Nat):Bool:=decide (t.length≤k) && t.all jv && qz t
theorem Rm (t:aK) (k:Nat) (hk:k≤100000) (hl:t.length≤4611686018427387904) (htx:∀ n ∈ t,n.s.length≤4611686018427387904∧n.name.length≤4611686018427387904∧n.c.s.length≤4611686018427387904) (hcn:∀ n ∈ t,n.c.name.length≤4611686018427387904) :
  ai Tryz.prog 7 [aA t,.int .i64 k] [] (.bool (Gt t k)) []:=by
 refine CO.bE (T:=aU Tryz.prog [(24,pX),(16,xh)]) 0 hD (aj (af Ib (af Lv ah))) aY (by decide) fun Q hQ=>?_
 cases hsh:(decide (t.length≤k) && t.all jv) with
 | false=>
  have hr:Gt t k=false:=by simp only [Gt,hsh,Bool.false_and]
  (conv=>arg 4;cbv);simp(maxSteps:=400000)only[↓ax,ay,BEq.rfl,reduceIte,reduceCtorEq,Nat.reduceLT,reduceAdd,reduceSub,reduceMul,Nat.reduceBEq,reduceLeDiff,reduceToNat,reduceLE,hQ,↓pX,toNat_natCast,hsh,hr]
  repeat' (first | omega | exact htx | refine ⟨?_,?_⟩)
 | true=>
  have hr:Gt t k=qz t:=by simp only [Gt,hsh,Bool.true_and]
  simp only [Bool.and_eq_true,decide_eq_true_eq,List.all_eq_true] at hsh
  have hsh':(decide (t.length≤k) && t.all jv)=true:=by simp only [Bool.and_eq_true,decide_eq_true_eq,List.all_eq_true];exact hsh
  have hs1:∀ n ∈ t,n.s.length≤100∧n.name.length≤100∧n.c.s.length≤100:=fun n hn=>by
   have:=hsh.2 n hn
   simp only [jv,Bool.and_eq_true,decide_eq_true_eq] at this
   exact ⟨this.1.1,this.1.2,this.2⟩
  have hsm:kD t:=⟨by omega,fun n hn=>by have:=hs1 n hn;exact ⟨by omega,by omega,⟨by omega,hcn n hn⟩⟩⟩
  have hcs:∀ n ∈ t,n.c.s.length≤500000:=fun n hn=>by have:=hs1 n hn;omega
  (conv=>arg 4;cbv);simp(maxSteps:=400000)only[↓ax,ay,BEq.rfl,reduceIte,reduceCtorEq,Nat.reduceLT,reduceAdd,reduceSub,reduceMul,Nat.reduceBEq,reduceLeDiff,reduceToNat,reduceLE,hQ,↓pX,toNat_natCast,hsh',↓xh,hr]
  have hl5:t.length≤100000:=by omega
  repeat' (first | omega | exact htx | exact hsm | exact hcs | refine ⟨?_,?_⟩)
def mD:dN:=fun args objs K=>match args with
 | [a0,.int .i64 k]=>gu aA a0 (HK.mk:HK fun t=>(0≤k∧k≤100000)∧(t.length≤4611686018427387904)∧(∀ n ∈ t,n.s.length≤4611686018427387904∧n.name.length≤4611686018427387904∧n.c.s.length≤4611686018427387904)∧(∀ n ∈ t,n.c.name.length≤4611686018427387904)∧K (.bool (Gt t k.toNat)) objs 0)
 | _=>False
theorem OE:aD Tryz.prog 7 (mD):=by
 intro args objs K h
 unfold mD at h
 split at h
 · rename_i a0 k
   obtain ⟨t,rfl,h1,h2,h3,h4,hk⟩:=h
   exact ⟨_,_,_,.pure _ rfl ((by have:=Rm t k.toNat (by omega) h2 h3 h4;rwa [Int.toNat_of_nonneg h1.1] at this)),hk⟩
 · exact h.elim
end Lp
namespace Lp
open Go Go.Proofs
open Nat (reduceAdd reduceLeDiff reduceMul reduceSub)
open Int (reduceLE reduceToNat)
def Ea (l:List aK) (ver:Nat):Obj:=⟨23,1,l.map aA,true,ver⟩
theorem JB (f:PV→PV) (hf:∀ l,f (aA l)=aA l) (D:List aK):(D.map aA).map (PV.bQ f)=D.map aA:=by
 rw [List.map_map]
 exact List.map_congr_left fun x _=>hf x
theorem OG (f:PV→PV) (hf:∀ x:eT,(aV x).bQ f=aV x) (D:aK):(D.map aV).map (PV.bQ f)=D.map aV:=by
 rw [List.map_map]
 exact List.map_congr_left fun x _=>hf x
theorem Xy (d n:Nat) (X:List Obj) (T:TypeId) (D:List aK) (u:Nat):gy d n X ⟨T,1,D.map aA,true,u⟩=⟨T,1,D.map aA,true,u⟩:=by
 simp only [gy,JB (fJ d n X) (fun _=>rfl)]
theorem t_ (t:aK) (ho:Y.One t):∃ n r ps,t=n::r∧0≤n.many∧Y.parts n.many.toNat r=some ps∧ps.flatten=r∧(∀ p ∈ ps,Y.One p)∧Y.partsOf n r=ps∧n.many=(ps.length:Int)∧ps.length≤r.length:=by
 obtain ⟨n,r,rfl⟩:∃ n r,t=n::r:=by
  cases t with
  | nil=>exact absurd rfl ho.ne
  | cons n r=>exact ⟨n,r,rfl⟩
 obtain ⟨hm,ps,h1,h2,h3⟩:=ho.parts
 have hl:=Y.bN _ _ _ h1
 exact ⟨n,r,ps,rfl,hm,h1,h2,h3,by simp [Y.partsOf,h1],by omega,by have:=Y.fZ _ _ _ h1;omega⟩
theorem OH (a b:aK) (ha:a.length≤1000000) (hb:b.length≤1000000):ai Tryz.prog 13 [aA a,aA b] [] (.bool (decide (a=b))) []:=by
 refine Bu.bE (T:=aU Tryz.prog []) 0 hD (aj ah) aY (by decide) fun Q hQ=>?_
 by_cases hl:a.length=b.length
 rotate_left 1
 · have hl':((a.length:Int)=(b.length:Int))=False:=eq_false (by omega)
   have hr:decide (a=b)=false:=decide_eq_false fun h=>hl (by rw [h])
   (conv=>arg 4;cbv);simp(maxSteps:=400000)only[↓ax,ay,BEq.rfl,reduceIte,reduceCtorEq,Nat.reduceLT,reduceAdd,reduceSub,reduceMul,Nat.reduceBEq,reduceLeDiff,reduceToNat,reduceLE,hQ,hl',hr]
 have hl':((a.length:Int)=(b.length:Int))=True:=eq_true (by omega)
 (conv=>arg 4;cbv);simp(maxSteps:=400000)only[↓ax,ay,BEq.rfl,reduceIte,reduceCtorEq,Nat.reduceLT,reduceAdd,reduceSub,reduceMul,Nat.reduceBEq,reduceLeDiff,reduceToNat,reduceLE,hQ,hl']
 refine aH (fun m S=>∃ i:Nat,i+m=a.length∧(∀ j,j<i→a[j]?=b[j]?)∧S=⟨dU 26 [(0,aA a),(1,aA b),(5,.int .i64 i)],[]⟩) a.length ⟨0,by omega,fun j h=>absurd h (by omega),?_⟩ ?_
 · simp only [dh,keepR,reduceAdd,oC,Nat.reduceBEq,List.map_nil]
   rfl
 rintro m S ⟨i,him,hj,rfl⟩
 have zi:(0≤(i:Int))=True:=eq_true (by omega)
 rcases Nat.lt_or_ge i a.length with h | h
 rotate_left 1
 · have hlt:((i:Int)<(a.length:Int))=False:=eq_false (by omega)
   have hab:a=b:=List.ext_getElem? fun j=>by
    by_cases hji:j<i
    · exact hj j hji
    · rw [List.getElem?_eq_none (by omega),List.getElem?_eq_none (by omega)]
   have hr:decide (a=b)=true:=decide_eq_true hab
   simp(maxSteps:=400000)only[↓ax,ay,BEq.rfl,reduceIte,reduceCtorEq,Nat.reduceLT,reduceAdd,reduceSub,reduceMul,Nat.reduceBEq,reduceLeDiff,reduceToNat,reduceLE,hQ,hlt,hr]
 have hlt:((i:Int)<(a.length:Int))=True:=eq_true (by omega)
 have ga:=List.getElem?_eq_getElem h
 have gb:b[i]?=some (b[i]'(by omega)):=List.getElem?_eq_getElem (by omega)
 generalize a[i]=x at ga
 generalize b[i]'(by omega)=y at gb
 by_cases hxy:x=y
 · have hxy':(x=y)=True:=eq_true hxy
   simp(maxSteps:=400000)only[↓ax,ay,BEq.rfl,reduceIte,reduceCtorEq,Nat.reduceLT,reduceAdd,reduceSub,reduceMul,Nat.reduceBEq,reduceLeDiff,reduceToNat,reduceLE,hQ,hlt,zi,ga,gb,acn,hxy']
   refine ⟨⟨by omega,by omega⟩,m-1,by omega,i+1,by omega,?_,by simp⟩
   intro j hji
   by_cases hjj:j=i
   · subst hjj;rw [ga,gb,hxy]
   · exact hj j (by omega)
 · have hxy':(x=y)=False:=eq_false hxy
   have hr:decide (a=b)=false:=decide_eq_false fun h=>hxy (by rw [h,gb] at ga;exact (Option.some.inj ga).symm)
   simp(maxSteps:=400000)only[↓ax,ay,BEq.rfl,reduceIte,reduceCtorEq,Nat.reduceLT,reduceAdd,reduceSub,reduceMul,Nat.reduceBEq,reduceLeDiff,reduceToNat,reduceLE,hQ,hlt,zi,ga,gb,acn,hxy',hr]
def m_:dN:=fun args objs K=>match args with
 | [a0,a1]=>gu aA a0 (HK.mk:HK fun a=>gu aA a1 (HK.mk:HK fun b=>(a.length≤1000000)∧(b.length≤1000000)∧K (.bool (decide (a=b))) objs 0))
 | _=>False
theorem BJ:aD Tryz.prog 13 (m_):=by
 intro args objs K h
 unfold m_ at h
 split at h
 · rename_i a0 a1
   obtain ⟨a,rfl,b,rfl,h1,h2,hk⟩:=h
   exact ⟨_,_,_,.pure _ rfl (OH a b h1 h2),hk⟩
 · exact h.elim
end Lp
namespace Lp
open Go Go.Proofs
end Lp
namespace Lp
open Go Go.Proofs
open List (length_cons length_map mem_cons_of_mem)
structure yD (t:aK):Prop where
 rt:ES bB fA t
 len:t.length≤100000
 cs:∀ n ∈ t,n.c.s.length≤500000
 nm:∀ n ∈ t,n.name.length≤4611686018427387904
theorem yD.part {n:eT}{r:aK}(h:yD (n::r)):∀ p ∈ bZ (n::r),yD p∧p.length≤r.length:=by
 intro p hp
 have h1:=h.rt.part p hp
 have hl:=h.len
 simp only [length_cons] at hl
 refine ⟨⟨h1.1,by omega,?_,?_⟩,h1.2⟩
 all_goals
  by_cases hk:n.kind=1
  · simp only [bZ,hk,if_true] at hp;cases hp
  simp only [bZ,hk,if_false] at hp
  obtain ⟨_,_,ps,h3,h4,_⟩:=h.rt.parts
  rw [jC h3] at hp
  obtain ⟨q,hq,rfl⟩:=List.mem_map.1 hp
  have hr:∀ x ∈ q,x ∈ r:=fun x hx=>by rw [← h4];exact List.mem_flatten.2 ⟨q,hq,hx⟩
  intro x hx
  cases q with
  | nil=>cases hx
  | cons y z=>
   rcases List.mem_cons.1 hx with rfl | hx
   · first
      | exact h.cs y (mem_cons_of_mem _ (hr y (List.mem_cons_self ..)))
      | exact Nat.zero_le _
   · first
      | exact h.cs x (mem_cons_of_mem _ (hr x (mem_cons_of_mem _ hx)))
      | exact h.nm x (mem_cons_of_mem _ (hr x (mem_cons_of_mem _ hx)))
theorem yD.atoms {n:eT}{r:aK}(h:yD (n::r)) (hk:n.kind=1):(0≤n.n∧n.n≤31)∧(dB (n::r)).length≤100000∧(∀ a ∈ dB (n::r),eP a.c)∧(∀ a ∈ dB (n::r),a.c.s.length≤500000):=by
 obtain ⟨ps,p1,p2,p3,p4,p5,p6,p7⟩:=Sw (i:=0) h.rt rfl hk
 have hl:=h.len
 simp only [length_cons,List.drop_succ_cons,List.drop_zero] at hl p1 p2 p4
 have ha:dB (n::r)=ps.flatten.map iy:=by simp only [dB,hk,if_true,p2]
 have hm:∀ x ∈ ps.flatten,x ∈ r:=fun x hx=>by rw [p2] at hx;exact List.mem_of_mem_take hx
 have hs:∀ a ∈ dB (n::r),a.c.s.length≤500000:=fun a h'=>by
  rw [ha] at h'
  obtain ⟨x,hx,rfl⟩:=List.mem_map.1 h'
  exact h.cs x (mem_cons_of_mem _ (hm x hx))
 refine ⟨⟨by omega,by omega⟩,?_,fun a h'=>?_,hs⟩
 · rw [ha,length_map,p2,List.length_take];omega
 · have h2:=hs a h'
   rw [ha] at h'
   obtain ⟨x,hx,rfl⟩:=List.mem_map.1 h'
   exact JA (p7 x hx) h2
theorem yD.names {n:eT}{r:aK}(h:yD (n::r)):(nZ (n::r)).length≤100000∧∀ s ∈ nZ (n::r),s.length≤4611686018427387904:=by
 have hl:=h.len
 simp only [length_cons] at hl
 by_cases hk:n.kind=2
 · obtain ⟨_,_,ps,h3,h4,_⟩:=h.rt.parts
   have e:nZ (n::r)=ps.map Y.nameOf:=by simp only [nZ,hk,if_true,jC h3]
   have h1:=Md h.rt
   have e2:bZ (n::r)=ps.map Y.jW:=by simp only [bZ,hk,jC h3];rfl
   rw [e2,length_map] at h1
   rw [e]
   refine ⟨by rw [length_map];omega,fun s hs=>?_⟩
   obtain ⟨q,hq,rfl⟩:=List.mem_map.1 hs
   cases q with
   | nil=>exact Nat.zero_le _
   | cons y z=>exact h.nm y (mem_cons_of_mem _ (by rw [← h4];exact List.mem_flatten.2 ⟨_,hq,List.mem_cons_self ..⟩))
 · have e:nZ (n::r)=[]:=by simp [nZ,hk]
   rw [e];exact ⟨Nat.zero_le _,fun s hs=>by cases hs⟩
end Lp
namespace Lp
open Go Go.Proofs
open List (length_cons length_drop length_nil nil_append tail_drop)
open Nat (reduceAdd reduceLeDiff reduceMul reduceSub)
theorem Lx (v:aK) (i c:Nat) (hv:v.length≤4611686018427387904) (h:Y.skip (v.drop i) 1=some c):ai Tryz.prog 94 [aA v,.int .i64 i] [] (.int .i64 (i+c:Nat)) []:=by
 refine Od.pure (T:=aU Tryz.prog []) 0 hD (aj ah) aY (by decide) ?_
 (conv=>arg 4;cbv);simp only [↓yP,Dg,↓Aj,↓xE,↓Ak,xG,↓lV,mE,jo,fK,Cj,reduceAdd,reduceSub,qm,bL,Es,Et,vz]
 refine aH (fun m S=>∃ (j k c':Nat),m=c'∧Y.skip (v.drop j) k=some c'∧j+c'=i+c∧S=⟨mkT 19 [(0,aA v),(1,.int .i64 j),(5,.int .i64 k)],[]⟩) c ⟨i,1,c,rfl,h,rfl,?_⟩ ?_
 · simp only [O4,aA,qm];rfl
 rintro m S ⟨j,k,c',rfl,hs,hj,rfl⟩
 simp only [↓yP,Dg,↓Aj,↓xE,↓Ak,xG,↓lV,mE,jo,fK,Cj,reduceAdd,reduceSub,qm,O4,bL,aA,aV,Es,Et,vz,aZ,eY,aI,dX,↓yj,↓Ke,G7,sZ,Eu,GH,Bool.not_false,Bool.and_self,reduceLeDiff,forall_const,ne_eq,reduceCtorEq,not_false_eq_true,true_and,PV.bool.injEq,Int.toNat_natCast,Nat.zero_add,decide_eq_true_eq,length_cons,length_nil]
 refine ⟨fun hk=>?_,fun hk=>?_⟩
 · obtain ⟨k,rfl⟩:∃ k',k=k'+1:=⟨k-1,by omega⟩
   have hjl:j<v.length:=by
    rcases Nat.lt_or_ge j v.length with h' | h'
    · exact h'
    · rw [List.drop_eq_nil_of_le h'] at hs;simp [Y.skip] at hs
   rw [List.drop_eq_getElem_cons hjl] at hs
   obtain ⟨hm,c'',rfl,hs'⟩:=Y.cB hs
   have hle:=Y.dV _ _ _ hs'
   simp only [length_drop] at hle
   have hk2:((k+1:Nat):Int)+(v[j].many-1)=((k+v[j].many.toNat:Nat):Int):=by omega
   exact ⟨by omega,v[j],List.getElem?_eq_getElem hjl,by omega,by omega,by omega,c'',by omega,j+1,k+v[j].many.toNat,c'',rfl,hs',by omega,by rw [hk2];rfl⟩
 · rw [if_pos trivial]
   have hk0:k=0:=by have:=of_decide_eq_false hk;omega
   subst hk0
   have:m=0:=by cases hd:v.drop j <;> rw [hd] at hs <;> simp [Y.skip] at hs <;> exact hs.symm
   subst this
   congr 1;omega
def vU (v:aK):Obj:=⟨51,11,v.map aV,true,0⟩
theorem vV (v:aK):fQ [vU v]:=by
 intro o ho x hx p hp
 simp only [List.mem_singleton] at ho
 subst ho
 simp only [vU,List.mem_map] at hx
 obtain ⟨n,_,rfl⟩:=hx
 simp only [aV,PV.cells,List.mem_cons,List.not_mem_nil,or_false] at hp
 rcases hp with rfl | rfl | rfl | rfl | rfl | rfl | rfl | rfl | rfl | rfl | rfl <;> rfl
theorem Rn (n:eT):(aV n).cells.length=11∧(aV n).cells.all PV.storable=true:=⟨rfl,rfl⟩
theorem Xz (d n:Nat) (objs:List Obj) (v:aK):(v.map aV).map (PV.bQ (fJ d n objs))=v.map aV:=by
 rw [List.map_map]
 exact List.map_congr_left fun x _=>rfl
theorem Ro:ai Tryz.prog 28 [.sl 11 [] (some true)] [] (.bO 0 0) [vU []]:=by
 refine iO.made (T:=aU Tryz.prog []) 0 hD (aj ah) aY ?_
 (conv=>arg 4;cbv);simp only [↓yP,Dg,↓Aj,↓xE,↓Ak,xG,↓lV,Dh,Cj,reduceAdd,reduceSub,qm,O4,bL,Es,Et,vz,dP,forall_const,reduceCtorEq,false_imp_iff,and_true,TK.slice.injEq,exists_eq',true_and]
 exact ⟨_,0,0,_,Weak.Fy 2 51 11 rfl,rfl,rfl,rfl,rfl,rfl,vV []⟩
theorem OI (v:aK) (hv:v.length≤1099511627776):ai Tryz.prog 28 [.sl 11 (v.map aV) (some false)] [] (.bO 0 0) [vU v]:=by
 refine iO.made (T:=aU Tryz.prog []) 0 hD (aj ah) aY ?_
 (conv=>arg 4;cbv);simp only [↓yP,Dg,↓Aj,↓xE,↓Ak,xG,↓lV,Dh,Cj,reduceAdd,reduceSub,qm,O4,bL,Es,Et,vz,dP,forall_const,reduceCtorEq,false_imp_iff,and_true,TK.slice.injEq,exists_eq',true_and]
 simp only [bG,dK,lK,newObj,iH,bL,ne_eq,reduceCtorEq,not_false_eq_true,true_and,if_true,List.all_nil,Nat.zero_mul,Nat.zero_le,nil_append,length_nil,List.getElem?_cons_zero,Option.some.injEq]
 refine ⟨rfl,rfl,rfl,rfl,?_,_,rfl,rfl,rfl,rfl,rfl,?_,?_,fun _ _ h=>h.elim,_,0,2,_,Weak.refl _ _,rfl,rfl,rfl,rfl,?_,vV v⟩
 · intro y hy
   obtain ⟨n,_,rfl⟩:=List.mem_map.1 hy
   exact Rn n
 · simp;omega
 · simp;omega
 · simp only [gy,vU,List.replicate_zero,nil_append,Xz]
theorem OJ (v:aK) (hv:v.length≤1099511627776):ai Tryz.prog 28 [aA v] [] (.bO 0 0) [vU v]:=
 ai.split (pre:=[]) (post:=[]) (fun h=>by
  have:v=[]:=by simpa using h
  subst this
  exact Ro) (OI v hv)
theorem Rp (t:aK) (i:Int) (h0:0≤i) (hi:i.toNat<t.length) (hl:t.length≤1000000) (ho:Y.One t):ai Tryz.prog 94 [aA t,.int .i64 i] [] (.int .i64 (i.toNat+(Y.om t i.toNat).length:Nat)) []:=by
 obtain ⟨c,hc⟩:=ho.at hi
 have hle:=Y.dV _ _ _ hc
 rw [length_drop] at hle
 have hs:(Y.om t i.toNat).length=c:=by unfold Y.om;rw [hc];simp only [List.length_take,length_drop];omega
 have:=Lx t i.toNat c (by omega) hc
 rw [Int.toNat_of_nonneg h0] at this
 rw [hs]
 exact this
def p9:dN:=fun args objs K=>match args with
 | [a0,.int .i64 i]=>gu aA a0 (HK.mk:HK fun t=>(0≤i)∧(i.toNat<t.length)∧(t.length≤1000000)∧(Y.One t)∧K (.int .i64 (i.toNat+(Y.om t i.toNat).length:Nat)) objs 0)
 | _=>False
theorem Ii:aD Tryz.prog 94 (p9):=by
 intro args objs K h
 unfold p9 at h
 split at h
 · rename_i a0 i
   obtain ⟨t,rfl,h1,h2,h3,h4,hk⟩:=h
   exact ⟨_,_,_,.pure _ rfl ((Rp t i h1 h2 h3 h4)),hk⟩
 · exact h.elim
def jg:Nat→List aK→List (List PV)
 | _,[]=>[]
 | i,p::ps=>[.int .i64 i,.int .i64 (i+p.length:Nat)]::jg (i+p.length) ps
theorem r_:∀ (ps:List aK) (i:Nat),(jg i ps).length=ps.length
 | [],_=>rfl
 | p::ps,i=>by simp only [jg,length_cons,r_ ps]
theorem CQ:∀ (ps:List aK) (i:Nat),∀ y ∈ jg i ps,y.length=2
 | [],_,y,h=>by cases h
 | p::ps,i,y,h=>by
  rcases List.mem_cons.1 h with rfl | h
  · rfl
  · exact CQ ps _ y h
theorem Rq (t:aK):ai Tryz.prog 63 [aA t] [] (.fn 93 [] [.addr (aA t)]) []:=by
 refine UN.pure (T:=aU Tryz.prog []) 1 hD (aj ah) aY (by decide) ?_
 (conv=>arg 4;cbv);simp only [↓yP,Dg,↓Aj,↓xE,↓Ak,xG,↓lV,mE,jo,fK,reduceAdd,reduceSub,qm,bL,GL,jD,newObj,aA,Eu,GH,ne_eq,reduceCtorEq,not_false_eq_true,true_and,length_cons,length_nil,nil_append]
 exact ⟨rfl,rfl,rfl⟩
def si:dN:=fun args objs K=>match args with
 | [a0]=>gu aA a0 (HK.mk:HK fun t=>K (.fn 93 [] [.addr (aA t)]) objs 0)
 | _=>False
theorem Dy:aD Tryz.prog 63 (si):=by
 intro args objs K h
 unfold si at h
 split at h
 · rename_i a0
   obtain ⟨t,rfl,hk⟩:=h
   exact ⟨_,_,_,.pure _ rfl (Rq t),hk⟩
 · exact h.elim
theorem Dz (t:aK) (n:eT) (ps:List aK) (ho:Y.One t) (hl:t.length≤1000000) (hg0:t[0]?=some n) (hp:Y.parts n.many.toNat (t.drop 1)=some ps) (hm:0≤n.many) :
  Gives Tryz.prog 93 [.addr (aA t)] (if n.kind=1 then [] else jg 1 ps):=by
 refine Oe.gives (fnT:=q9 [(94,p9)]) hD (af Ii ah) aY ?_
 intro I J objs y hI G6 Wi
 have hpl:=Y.bN _ _ _ hp
 have Hg:=Y.fZ _ _ _ hp
 rw [length_drop] at Hg
 have hmn:n.many=(ps.length:Int):=by omega
 (conv=>arg 4;cbv);simp(maxSteps:=400000)only[↓ax,ay,BEq.rfl,reduceIte,reduceCtorEq,Nat.reduceLT,reduceAdd,reduceSub,reduceMul,Nat.reduceBEq,reduceLeDiff,Int.reduceToNat,Int.reduceLE,hg0]
 refine aH (fun m S=>∃ (k i:Nat) (O:List Obj) (rest:List aK),k+rest.length=ps.length∧m=rest.length∧Y.parts rest.length (t.drop i)=some rest∧ps.drop k=rest∧(jg 1 ps).drop k=jg i rest∧(if n.kind=1 then O=objs else I k O)∧
  S=⟨dU 28 [(0,.Ef y),(1,.addr (aA t)),(3,.int .i64 i),(8,.int .i64 n.many),(9,.int .i64 k)],O⟩) ps.length ⟨0,1,objs,ps,by omega,rfl,by rw [hpl];exact hp,rfl,rfl,by split;rfl;exact hI,?_⟩ ?_
 · simp only [dh,keepR,reduceAdd,oC,Nat.reduceBEq,List.map_nil]
   rfl
 rintro m S ⟨k,i,O,rest,hk,rfl,hps,hd,hrw,Uh,rfl⟩
 cases rest with
 | nil=>
  simp only [length_nil,Nat.add_zero] at hk
  have hlt:((k:Int)<(ps.length:Int))=False:=eq_false (by omega)
  simp(maxSteps:=400000)only[↓ax,ay,BEq.rfl,reduceIte,reduceCtorEq,Nat.reduceLT,reduceAdd,reduceSub,reduceMul,Nat.reduceBEq,reduceLeDiff,Int.reduceToNat,Int.reduceLE,hmn,hlt]
  refine ⟨.inl rfl,.inl ?_⟩
  by_cases h1:n.kind=1
  · rw [if_pos h1] at Uh ⊢;rw [Uh];exact hI
  · rw [if_neg h1] at Uh ⊢;rw [r_,← hk];exact Uh
 | cons p qs=>
  simp only [length_cons] at hk
  obtain ⟨c,qs',h1,h2,h3⟩:=Y.eB (k:=qs.length) hps
  simp only [List.cons.injEq] at h2
  obtain ⟨hp1,rfl⟩:=h2
  have hc:=Y.dV _ _ _ h1
  simp only [length_drop] at hc
  have hlt:((k:Int)<(ps.length:Int))=True:=eq_true (by omega)
  have hpc:p.length=c:=by rw [hp1,List.length_take,length_drop];omega
  have hsub:(Y.om t i).length=c:=by
   have e:Y.om t i=p:=by unfold Y.om;rw [h1];exact hp1.symm
   rw [e,hpc]
  have zi:(0≤(i:Int))=True:=eq_true (by omega)
  by_cases hk1:n.kind=1
  · have QV:=eq_true hk1
    simp(maxSteps:=400000)only[↓ax,ay,BEq.rfl,reduceIte,reduceCtorEq,Nat.reduceLT,reduceAdd,reduceSub,reduceMul,Nat.reduceBEq,reduceLeDiff,Int.reduceToNat,Int.reduceLE,hmn,hlt,↓p9,Int.toNat_natCast,hsub,hg0,QV]
    rw [if_pos hk1] at Uh
    have e1:(jg 1 ps).drop (k+1)=jg (i+c) qs:=by
     have:=congrArg List.tail hrw
     simpa [jg,tail_drop,hpc] using this
    have e2:ps.drop (k+1)=qs:=by
     have:=congrArg List.tail hd
     simpa [tail_drop] using this
    exact ⟨by omega,by omega,hl,ho,⟨by omega,by omega⟩,qs.length,by omega,k+1,i+c,O,qs,by omega,rfl,by rw [← List.drop_drop];exact h3,e2,e1,Uh,by rw [Int.natCast_add k 1];rfl⟩
  · have QV:=eq_false hk1
    simp(maxSteps:=400000)only[↓ax,ay,BEq.rfl,reduceIte,reduceCtorEq,Nat.reduceLT,reduceAdd,reduceSub,reduceMul,Nat.reduceBEq,reduceLeDiff,Int.reduceToNat,Int.reduceLE,hmn,hlt,↓p9,Int.toNat_natCast,hsub,hg0,QV,VZ]
    have e1:(jg 1 ps).drop (k+1)=jg (i+c) qs:=by
     have:=congrArg List.tail hrw
     simpa [jg,tail_drop,hpc] using this
    have e2:ps.drop (k+1)=qs:=by
     have:=congrArg List.tail hd
     simpa [tail_drop] using this
    have e3:(jg 1 ps)[k]?=some [.int .i64 (i:Int),.int .i64 (i+c:Nat)]:=by
     have:=congrArg (fun l=>l[0]?) hrw
     simpa [jg,hpc] using this
    rw [if_neg hk1] at Uh
    exact ⟨by omega,by omega,hl,ho,rfl,k,Uh,e3,fun O' hI'=>⟨⟨by omega,by omega⟩,qs.length,by omega,k+1,i+c,O',qs,by omega,rfl,by rw [← List.drop_drop];exact h3,e2,e1,hI',by rw [Int.natCast_add k 1];rfl⟩,
     fun O' hJ'=>⟨.inr rfl,.inr ⟨k,by rw [r_];omega,hJ'⟩⟩⟩
end Lp
namespace Lp
open Go Go.Proofs
open List (mem_singleton)
open Nat (reduceAdd reduceLeDiff reduceMul reduceSub)
open Int (reduceLE reduceToNat)
def ng:dN:=fun args objs K=>match args with
 | [a]=>gu aA a (HK.mk:HK fun t=>t.length≤1000000∧K (.bO objs.length 0) (objs++[vU t]) 2)
 | _=>False
theorem BK:aD Tryz.prog 28 ng:=by
 intro args objs K h
 unfold ng at h
 split at h
 · rename_i a
   obtain ⟨t,rfl,hv,hk⟩:=h
   have h:=nP.made (P:=Tryz.prog) (objs:=objs) _ _ rfl (vV t) (OJ t (by omega))
   exact ⟨_,_,_,h,by simpa [PV.shift,PV.sP] using hk⟩
 · exact h.elim
theorem CR (t:aK):∀ (ps:List aK) (i0 k:Nat) (args:List PV),ps.flatten=(t.drop i0).take ps.flatten.length→(jg i0 ps)[k]?=some args→
  ∃ p o,ps[k]?=some p∧args=[.int .i64 (o:Nat),.int .i64 (o+p.length:Nat)]∧(t.drop o).take p.length=p
 | [],i0,k,args,_,h=>by simp [jg] at h
 | p::ps,i0,0,args,hf,h=>by
  simp only [jg,List.getElem?_cons_zero,Option.some.injEq] at h
  refine ⟨p,i0,rfl,h.symm,?_⟩
  have:=congrArg (List.take p.length) hf
  simp only [List.flatten_cons,List.take_left,List.length_append] at this
  rw [List.take_take,Nat.min_eq_left (by omega)] at this
  exact this.symm
 | p::ps,i0,k+1,args,hf,h=>by
  simp only [jg,List.getElem?_cons_succ] at h
  have:=congrArg (List.drop p.length) hf
  simp only [List.flatten_cons,List.drop_left,List.length_append] at this
  rw [List.drop_take,List.drop_drop,Nat.add_sub_cancel_left] at this
  obtain ⟨q,o,h1,h2,h3⟩:=CR t ps (i0+p.length) k args this h
  exact ⟨q,o,by simpa using h1,h2,h3⟩
def xQ (t:aK):Obj:=⟨23,1,[aA t],true,1⟩
def Eb (t:aK):List aK→Nat→List Obj
 | [],_=>[xQ t,⟨54,1,[.sl 0 [] (some true)],true,1⟩]
 | p::ps,v=>[xQ t,⟨54,1,[.bO 2 v],true,1⟩,Ea (p::ps) v]
theorem Y6 (t:aK) (l:List aK) (v:Nat):2≤(Eb t l v).length∧jG (Eb t l v):=by
 cases l with
 | nil=>
  refine ⟨by simp [Eb],?_⟩
  intro o ho x hx c hc
  simp only [Eb,xQ,List.mem_cons,List.not_mem_nil,or_false] at ho
  rcases ho with rfl | rfl
  · simp only [mem_singleton] at hx;subst hx
    simp only [aA,PV.cells,mem_singleton] at hc;subst hc;rfl
  · simp only [mem_singleton] at hx;subst hx
    simp only [PV.cells,mem_singleton] at hc;subst hc;rfl
 | cons p ps=>
  refine ⟨by simp [Eb],?_⟩
  intro o ho x hx c hc
  simp only [Eb,xQ,Ea,List.mem_cons,List.not_mem_nil,or_false] at ho
  rcases ho with rfl | rfl | rfl
  · simp only [mem_singleton] at hx;subst hx
    simp only [aA,PV.cells,mem_singleton] at hc;subst hc;rfl
  · simp only [mem_singleton] at hx;subst hx
    simp only [PV.cells,mem_singleton] at hc;subst hc;simp [Eb,PV.uK]
  · simp only [List.mem_map] at hx
    obtain ⟨y,_,rfl⟩:=hx
    simp only [aA,PV.cells,mem_singleton] at hc;subst hc;rfl
theorem aal (x:eT) (q:aK):(vU (x::q)).live=true∧(vU (x::q)).ver=0∧(vU (x::q)).sz=11∧(vU (x::q)).ty=51∧(vU (x::q)).xs=aV x::q.map aV:=⟨rfl,rfl,rfl,rfl,rfl⟩
theorem adr (l:List aK) (v:Nat):(Ea l v).live=true∧(Ea l v).ver=v∧(Ea l v).sz=1∧(Ea l v).ty=23∧(Ea l v).xs=l.map aA:=⟨rfl,rfl,rfl,rfl,rfl⟩
theorem SC (k:Nat) (X:List Obj) (x:eT) (q:aK) (ver:Nat) (t:TypeId) (h:X[k]?=some ⟨t,11,aV x::q.map aV,true,ver⟩):fJ 1 k X (.bO k ver)=aA (x::q):=by
 have e:(aV x::q.map aV).map (PV.bQ (jl 0 k X))=aV x::q.map aV:=OG (jl 0 k X) (fun _=>rfl) (x::q)
 simp only [fJ,Nat.lt_irrefl,if_false,jl,h,Nat.le_refl,decide_true,Bool.true_and,beq_self_eq_true,if_true,e]
 rfl
theorem XA (a b:Obj) (D:List aK) (ver:Nat):fJ 2 0 [a,b,Ea D ver] (.bO 2 ver)=pQ D:=by
 simp only [Ea,fJ,Nat.not_lt_zero,if_false,jl,List.getElem?_cons_succ,List.getElem?_cons_zero,Nat.zero_le,decide_true,Bool.true_and,beq_self_eq_true,if_true,JB (jl 1 0 _) (fun _=>rfl)]
 rfl
theorem XB :
  (∀ d X v i f,fJ d 2 X (.bM 1 v i f)=.bM 1 v i f)∧(∀ d X v i f,fJ d 3 X (.bM 1 v i f)=.bM 1 v i f)∧
  (∀ d n X T t u,gy d n X ⟨T,1,[aA t],true,u⟩=⟨T,1,[aA t],true,u⟩)∧
  (∀ d n X T u,gy d n X ⟨T,1,[.sl 0 [] (some true)],true,u⟩=⟨T,1,[.sl 0 [] (some true)],true,u⟩)∧
  (∀ d X T v u,gy d 3 X ⟨T,1,[.bO 2 v],true,u⟩=⟨T,1,[.bO 2 v],true,u⟩)∧
  (∀ d n X l v,gy d n X (Ea l v)=Ea l v):=
 ⟨fun _ _ _ _ _=>rfl,fun _ _ _ _ _=>rfl,fun _ _ _ _ _ _=>rfl,fun _ _ _ _ _=>rfl,fun _ _ _ _ _=>rfl,fun d n X l v=>Xy d n X 23 l v⟩
def aam (l:List aK):PV:=if l=[] then .sl 0 [] (some true) else pQ l
theorem Ij (t:aK) (ho:Y.One t) (hl:t.length≤1000000):ai Tryz.prog 52 [aA t] [] (aam (bZ t)) []:=by
 obtain ⟨n,r,ps,hv,hm,hp,hfl,hps,hpo,hmn,Hg⟩:=t_ t ho
 have hg0:t[0]?=some n:=by rw [hv];rfl
 have hd1:t.drop 1=r:=by rw [hv];rfl
 have hrl:r.length+1=t.length:=by rw [hv];rfl
 have hr:bZ t=if n.kind=1 then [] else ps.map Y.jW:=by rw [hv,bZ,hpo]
 have hgv:=Dz t n ps ho hl hg0 (by rw [hd1];exact hp) hm
 refine QL.bE (T:=aU Tryz.prog [(63,si),(28,ng)]) 2 hD (aj (af Dy (af BK ah))) aY (by decide) fun Q hQ=>?_
 (conv=>arg 4;cbv);simp(maxSteps:=400000)only[↓ax,ay,BEq.rfl,reduceIte,reduceCtorEq,Nat.reduceLT,reduceAdd,reduceSub,reduceMul,Nat.reduceBEq,reduceLeDiff,reduceToNat,reduceLE,hQ,↓si]
 obtain ⟨qs,hqs,hrows⟩:∃ qs:List aK,qs=(if n.kind=1 then [] else ps)∧(if n.kind=1 then [] else jg 1 ps)=jg 1 qs:=by
  by_cases h1:n.kind=1
  · exact ⟨[],by rw [if_pos h1],by rw [if_pos h1];rfl⟩
  · exact ⟨ps,by rw [if_neg h1],by rw [if_neg h1]⟩
 have hr':bZ t=qs.map Y.jW:=by
  rw [hr,hqs];split <;> rfl
 have hqf:qs.flatten=(t.drop 1).take qs.flatten.length:=by
  rw [hqs];split
  · rfl
  · rw [hd1,hfl];simp
 have Vr:qs.length≤t.length:=by
  rw [hqs];split
  · simp
  · omega
 have acz:∀ p ∈ qs,Y.One p:=by
  rw [hqs];split
  · intro p h;cases h
  · exact hps
 rw [hrows] at hgv
 clear hqs hrows hr
 refine PK 93 [.addr (aA t)] (jg 1 qs) (fun i O=>∃ ver,i≤qs.length∧O=Eb t ((qs.take i).map Y.jW) ver) rfl rfl rfl trivial hgv (CQ qs 1) ⟨0,Nat.zero_le _,rfl⟩ ?_ ?_ ?_
 · rintro i O ⟨ver,_,rfl⟩
   exact Y6 _ _ _
 · rintro i args O ⟨ver,hi,rfl⟩ ha
   obtain ⟨p,o,h1,rfl,h3⟩:=CR t qs 1 i args hqf ha
   have hil:=(List.getElem?_eq_some_iff.1 h1).1
   have htk:(qs.take (i+1)).map Y.jW=(qs.take i).map Y.jW++[Y.jW p]:=by rw [List.take_add_one,h1];simp
   have ads:=(acz p (List.mem_of_getElem? h1)).ne
   obtain ⟨x,q,hpx⟩:∃ x q,p=x::q:=by
    cases p with
    | nil=>exact absurd rfl ads
    | cons x q=>exact ⟨x,q,rfl⟩
   have hxl:p.length=q.length+1:=by rw [hpx];rfl
   have hol:o+p.length≤t.length:=by
    have:=congrArg List.length h3
    rw [List.length_take,List.length_drop] at this
    omega
   have zo:(0≤(o:Int))=True:=eq_true (by omega)
   have c1:((o:Int)≤((o+p.length:Nat):Int))=True:=eq_true (by omega)
   have c2:(((o+p.length:Nat):Int)≤(t.length:Int))=True:=eq_true (by omega)
   have hsl:List.drop o (List.take (o+p.length) t)=p:=by rw [List.drop_take,show o+p.length-o=p.length by omega,h3]
   subst hpx
   simp only [List.length_cons] at c1 c2 hsl hol
   clear hxl
   cases hD:(qs.take i).map Y.jW with
   | nil=>
    unfold Eb xQ
    simp(maxSteps:=400000)only[↓ax,ay,BEq.rfl,reduceIte,reduceCtorEq,Nat.reduceLT,reduceAdd,reduceSub,reduceMul,Nat.reduceBEq,reduceLeDiff,reduceToNat,reduceLE,hQ,pO,knI,↓ng,zo,c1,c2,hsl,aal,List.set_cons_zero]
    refine ⟨by omega,by omega,?_⟩
    refine aT _ (Weak.freeze 1 2 ?_ _) ?_
    · exact Nat.le_refl _
    have hz:∀ a b:Obj,fJ 1 2 [a,b,⟨51,11,aV { x with name:=[] }::q.map aV,true,0⟩] (.bO 2 0)=aA ({ x with name:=[] }::q):=fun a b=>SC 2 _ _ q 0 _ rfl
    simp(maxSteps:=400000)only[↓ax,ay,BEq.rfl,reduceIte,reduceCtorEq,Nat.reduceLT,reduceAdd,reduceSub,reduceMul,Nat.reduceBEq,reduceLeDiff,reduceToNat,reduceLE,hQ,hz,XB,List.take_succ_cons,List.take_zero]
    refine ⟨1,by omega,?_⟩
    rw [htk,hD];rfl
   | cons d ds=>
    unfold Eb xQ
    simp(maxSteps:=400000)only[↓ax,ay,BEq.rfl,reduceIte,reduceCtorEq,Nat.reduceLT,reduceAdd,reduceSub,reduceMul,Nat.reduceBEq,reduceLeDiff,reduceToNat,reduceLE,hQ,pO,knI,↓ng,zo,c1,c2,hsl,aal,List.set_cons_zero]
    refine ⟨by omega,by omega,?_⟩
    refine aT _ (Weak.freeze 1 3 ?_ _) ?_
    · exact (by decide:2≤3)
    have hz:∀ a b c:Obj,fJ 1 3 [a,b,c,⟨51,11,aV { x with name:=[] }::q.map aV,true,0⟩] (.bO 3 0)=aA ({ x with name:=[] }::q):=fun a b c=>SC 3 _ _ q 0 _ rfl
    have hdl:ds.length≤t.length:=by
     have:=congrArg List.length hD
     simp only [List.length_map,List.length_take,List.length_cons] at this
     omega
    simp(maxSteps:=400000)only[↓ax,ay,BEq.rfl,reduceIte,reduceCtorEq,Nat.reduceLT,reduceAdd,reduceSub,reduceMul,Nat.reduceBEq,reduceLeDiff,reduceToNat,reduceLE,hQ,hz,XB,adr,List.take_succ_cons,List.take_zero]
    refine ⟨by omega,by omega,ver+1,by omega,?_⟩
    rw [htk,hD]
    simp only [List.cons_append,Ea,List.map_cons,List.map_append,List.map_nil]
    rfl
 · rintro O ⟨ver,_,rfl⟩
   rw [r_,List.take_length,← hr']
   cases hD:bZ t with
   | nil=>
    unfold Eb xQ
    simp(maxSteps:=400000)only[↓ax,ay,BEq.rfl,reduceIte,reduceCtorEq,Nat.reduceLT,reduceAdd,reduceSub,reduceMul,Nat.reduceBEq,reduceLeDiff,reduceToNat,reduceLE,hQ]
    rw [hD];rfl
   | cons d ds=>
    unfold Eb xQ
    simp(maxSteps:=400000)only[↓ax,ay,BEq.rfl,reduceIte,reduceCtorEq,Nat.reduceLT,reduceAdd,reduceSub,reduceMul,Nat.reduceBEq,reduceLeDiff,reduceToNat,reduceLE,hQ]
    rw [hD]
    exact (XA _ _ _ _).symm
theorem LA (t:aK) (ho:Y.One t) (hl:t.length≤1000000):ai Tryz.prog 52 [aA t] [] (pQ (bZ t)) []:=by
 refine (Ij t ho hl).res ?_
 unfold aam
 split
 · rename_i h;rw [h];exact rE 0 1
 · exact .refl _
def ug:dN:=fun args objs K=>match args with
 | [a0]=>gu aA a0 (HK.mk:HK fun t=>(Y.One t)∧(t.length≤1000000)∧K (pQ (bZ t)) objs 0)
 | _=>False
theorem Ik:aD Tryz.prog 52 (ug):=by
 intro args objs K h
 unfold ug at h
 split at h
 · rename_i a0
   obtain ⟨t,rfl,h1,h2,hk⟩:=h
   exact ⟨_,_,_,.pure _ rfl (LA t h1 h2),hk⟩
 · exact h.elim
end Lp
namespace Lp
open Go Go.Proofs
open Nat (reduceAdd reduceLeDiff reduceMul reduceSub)
open Int (reduceLE reduceToNat)
theorem Y7 {n:Nat}{l m:List (Nat×PV)}(h:∀ i,lW l i=lW m i):dU n l=dU n m:=
 wM (by simp [mW]) fun i hi=>by rw [tq,if_pos hi,h]
theorem OL (t:aK) (n:eT) (hl:t.length≤1000000) (hg0:t[0]?=some n) (hm:0≤n.many) (hml:1+n.many.toNat≤t.length):ai Tryz.prog 101 [aA t,.int .i64 0] [] (bg (((t.drop 1).take n.many.toNat).map iy)) []:=by
 refine K8.bE (T:=aU Tryz.prog []) 1 hD (aj ah) aY (by decide) fun Q hQ=>?_
 have e1:(0:Int)+1=1:=rfl
 have e2:Int.toNat 1=1:=rfl
 have t1:(1+n.many).toNat=1+n.many.toNat:=by omega
 have c1:((1:Int)≤1+n.many)=True:=eq_true (by omega)
 have c2:(1+n.many≤(t.length:Int))=True:=eq_true (by omega)
 have hR:List.drop 1 (List.take (1+n.many.toNat) t)=(t.drop 1).take n.many.toNat:=by rw [List.drop_take];congr 1;omega
 have hRl:((t.drop 1).take n.many.toNat).length=n.many.toNat:=by rw [List.length_take,List.length_drop];omega
 (conv=>arg 4;cbv);simp(maxSteps:=400000)only[↓ax,ay,BEq.rfl,reduceIte,reduceCtorEq,Nat.reduceLT,reduceAdd,reduceSub,reduceMul,Nat.reduceBEq,reduceLeDiff,reduceToNat,reduceLE,hQ,hg0,e1,e2,t1,c1,c2,hR]
 generalize (t.drop 1).take n.many.toNat=R at *
 refine ⟨⟨by omega,by omega⟩,?_⟩
 refine T_ (hz:=Nat.zero_le _) ⟨dU 35 [(5,.bO 0 0),(19,aA R),(20,.int .i64 R.length),(21,.int .i64 0)],[⟨29,7,[],true,0⟩]⟩ R.length ?_ ?_ ?_
  (I:=fun m S=>∃ i ver:Nat,i+m=R.length∧S=⟨dU 35 [(5,.bO 0 ver),(19,aA R),(20,.int .i64 R.length),(21,.int .i64 i)],[⟨29,7,((R.take i).map iy).map bP,true,ver⟩]⟩)
 · simp(maxSteps:=400000)only[↓ax,ay,BEq.rfl,reduceIte,reduceCtorEq,Nat.reduceLT,reduceAdd,reduceSub,reduceMul,Nat.reduceBEq,reduceLeDiff,reduceToNat,reduceLE,List.take_nil]
   refine (Weak.Fy 5 29 7 (by rfl)).trans ?_
   rw [rq.1,Y7 (m:=[(5,.bO 0 0),(19,aA R),(20,.int .i64 R.length),(21,.int .i64 0)])]
   · exact Weak.refl _ _
   · intro i
     simp only [lW]
     by_cases h3:i=5
     · subst h3;rfl
     · simp only [h3,if_false]
 · exact ⟨0,0,by omega,rfl⟩
 rintro m S ⟨i,ver,him,rfl⟩
 rcases Nat.lt_or_ge i R.length with h | h
 · have hlt:((i:Int)<(R.length:Int))=True:=eq_true (by omega)
   have hgi:=List.getElem?_eq_getElem h
   generalize R[i]=x at hgi
   have htk:(R.take (i+1)).map iy=(R.take i).map iy++[⟨x.n,x.c⟩]:=by rw [List.take_add_one,hgi];simp [iy]
   have hti:(R.take i).length=i:=by rw [List.length_take];omega
   simp(maxSteps:=400000)only[↓ax,ay,BEq.rfl,reduceIte,reduceCtorEq,Nat.reduceLT,reduceAdd,reduceSub,reduceMul,Nat.reduceBEq,reduceLeDiff,reduceToNat,reduceLE,hQ,hlt,hgi,iL,iM,zH,bY,dS,atB,UR,hti,UU,List.take_succ_cons,List.take_zero]
   refine ⟨by omega,by omega,by omega,⟨by omega,by omega⟩,m-1,by omega,i+1,ver+1,by omega,?_⟩
   have hk:∀ d m O (l:List f_) v,gy d m O ⟨29,7,l.map bP,true,v⟩=⟨29,7,l.map bP,true,v⟩:=fun d m O l v=>by
    have:(l.map bP).map (PV.bQ (fJ d m O))=l.map bP:=by rw [List.map_map];exact List.map_congr_left fun x _=>rfl
    simp only [gy,this]
   have e:List.map bP (List.map iy (List.take i R))++[bP ⟨x.n,x.c⟩]=(((R.take (i+1)).map iy).map bP):=by rw [htk];simp
   simp only [e,List.map_cons,List.map_nil,hk]
   rfl
 · have hlt:((i:Int)<(R.length:Int))=False:=eq_false (by omega)
   rw [List.take_of_length_le h]
   simp(maxSteps:=400000)only[↓ax,ay,BEq.rfl,reduceIte,reduceCtorEq,Nat.reduceLT,reduceAdd,reduceSub,reduceMul,Nat.reduceBEq,reduceLeDiff,reduceToNat,reduceLE,hQ,hlt,EF]
theorem LB (t:aK) (hl:t.length≤1000000) (ho:Y.One t):ai Tryz.prog 84 [aA t] [] (if Y.kindOf t=1 then bg (dB t) else .sl 0 [] (some true)) []:=by
 obtain ⟨n,r,ps,hv,hm,hp,hfl,hps,hpo,hmn,Hg⟩:=t_ t ho
 have hg0:t[0]?=some n:=by rw [hv];rfl
 have hkd:Y.kindOf t=n.kind:=by rw [hv];rfl
 rw [hkd]
 by_cases hk:n.kind=1
 · rw [if_pos hk]
   have ha:dB t=((t.drop 1).take n.many.toNat).map iy:=by rw [hv];simp [dB,hk]
   have hml:1+n.many.toNat≤t.length:=by rw [hv,List.length_cons];omega
   rw [ha]
   have hsp:=OL t n hl hg0 hm hml
   generalize ((t.drop 1).take n.many.toNat).map iy=A at *
   have hok:aD Tryz.prog 101 (fun args objs K=>args=[aA t,.int .i64 0]∧K (bg A) objs 0):=by
    rintro args objs K ⟨rfl,hk⟩
    exact ⟨_,_,_,.pure _ rfl hsp,hk⟩
   refine Gd.bE (T:=aU Tryz.prog [(101,_)]) 0 hD (aj (af hok ah)) aY (by decide) fun Q hQ=>?_
   (conv=>arg 4;cbv);simp(maxSteps:=400000)only[↓ax,ay,BEq.rfl,reduceIte,reduceCtorEq,Nat.reduceLT,reduceAdd,reduceSub,reduceMul,Nat.reduceBEq,reduceLeDiff,reduceToNat,reduceLE,hQ,hg0,hk]
 · rw [if_neg hk]
   have hk':=eq_false hk
   refine Gd.bE (T:=aU Tryz.prog []) 0 hD (aj ah) aY (by decide) fun Q hQ=>?_
   (conv=>arg 4;cbv);simp(maxSteps:=400000)only[↓ax,ay,BEq.rfl,reduceIte,reduceCtorEq,Nat.reduceLT,reduceAdd,reduceSub,reduceMul,Nat.reduceBEq,reduceLeDiff,reduceToNat,reduceLE,hQ,hg0,hk']
theorem Il (t:aK) (hl:t.length≤1000000) (ho:Y.One t):ai Tryz.prog 84 [aA t] [] (bg (dB t)) []:=by
 refine (LB t hl ho).res ?_
 split
 · exact .refl _
 · rename_i h
   have:dB t=[]:=by
    cases t with
    | nil=>rfl
    | cons n r=>have hk:¬ n.kind=1:=h;simp [dB,hk]
   rw [this]
   exact rE 0 7
def p_:dN:=fun args objs K=>match args with
 | [a0]=>gu aA a0 (HK.mk:HK fun t=>(t.length≤1000000)∧(Y.One t)∧K (bg (dB t)) objs 0)
 | _=>False
theorem Im:aD Tryz.prog 84 (p_):=by
 intro args objs K h
 unfold p_ at h
 split at h
 · rename_i a0
   obtain ⟨t,rfl,h1,h2,hk⟩:=h
   exact ⟨_,_,_,.pure _ rfl (Il t h1 h2),hk⟩
 · exact h.elim
end Lp
namespace Lp
open Go Go.Proofs
end Lp
namespace Lp
open Go Go.Proofs
end Lp
namespace Lp
open Go Go.Proofs
def ty0:aK:=[⟨0,0,[],[],0,aW⟩]
theorem LD {t:aK}(h:eO t=true) (hl:t.length≤100000) (hc:∀ n ∈ t,n.c.s.length≤500000∧n.name.length≤4611686018427387904):yD t:=
 ⟨rV h,hl,fun n hn=>(hc n hn).1,fun n hn=>(hc n hn).2⟩
theorem abb {t:aK}{k:Nat}(hk:k≤100000) (h:Gt t k=true):yD t∧t.length≤k:=by
 simp only [Gt,Bool.and_eq_true,decide_eq_true_eq,List.all_eq_true] at h
 obtain ⟨⟨h1,h2⟩,h3⟩:=h
 simp only [qz,Bool.and_eq_true] at h3
 refine ⟨LD h3.1 (by omega) fun n hn=>?_,h1⟩
 have:=h2 n hn
 simp only [jv,Bool.and_eq_true,decide_eq_true_eq] at this
 omega
structure SE (t:aK):Prop where
 len:t.length≤4611686018427387904
 txt:∀ n ∈ t,n.s.length≤4611686018427387904∧n.name.length≤4611686018427387904∧n.c.s.length≤4611686018427387904
 cnm:∀ n ∈ t,n.c.name.length≤4611686018427387904
end Lp
namespace Lp
open Go Go.Proofs Go.RowKit
end Lp
namespace Lp
open Go Go.Proofs
instance :Inhabited Nd:=⟨⟨0,0,[],[],false,0⟩⟩
structure U8 (n:Nd):Prop where
 kind:GK .i64 n.kind
 many:GK .i64 n.many
 name:n.name.length≤reachBytes
 s:n.s.length≤reachBytes
 e:GK .i64 n.e
theorem one_cell {t:TypeId}(hc:Tryz.prog.cellsOf t=1){cs:List Value}{off:Nat}{v:Value}(h:cs[off]?=some v):(cs.drop off).take (Tryz.prog.cellsOf t)=[v]:=by
 rw [hc]
 have hl:=(List.getElem?_eq_some_iff.1 h).1
 rw [show (cs.drop off)=cs[off]::cs.drop (off+1) from List.drop_eq_getElem_cons hl]
 rw [List.getElem?_eq_getElem hl] at h
 cases h
 rw [List.take_succ_cons,List.take_zero]
theorem DC:Tryz.prog.underlying 3=some (.int .i64):=by kernel_rfl
theorem vW:Tryz.prog.underlying 9=some .string:=by kernel_rfl
theorem XC:Tryz.prog.underlying 4=some .bool:=by kernel_rfl
theorem DF:Tryz.prog.cellsOf 3=1:=by kernel_rfl
theorem vX:Tryz.prog.cellsOf 9=1:=by kernel_rfl
theorem XD:Tryz.prog.cellsOf 4=1:=by kernel_rfl
theorem abd:∃ fs:Array Field,Tryz.prog.underlying 27=some (.struct fs)∧fs.toList.map (fun f=>(f.offset,f.type))=[(0,3),(1,3),(2,9),(3,9),(4,4),(5,3)]:=
 ⟨Tryz.prog.fieldsOf 27,by kernel_rfl,by kernel_rfl⟩
theorem SF:Rd Tryz.prog 27 av U8:=by
 intro H eh w fuel cs x h hw
 obtain ⟨fs,ht,hfs⟩:=abd
 obtain ⟨hl,hp⟩:=oL ht h hw
 rw [hfs] at hp
 have hc:Tryz.prog.cellsOf 27=6:=by kernel_rfl
 rw [hc] at hl
 match cs,hl with
 | [v0,v1,v2,v3,v4,v5],_=>
  obtain ⟨n0,y0,a0,b0⟩:=hp 0 0 3 rfl
  obtain ⟨n1,y1,a1,b1⟩:=hp 1 1 3 rfl
  obtain ⟨n2,y2,a2,b2⟩:=hp 2 2 9 rfl
  obtain ⟨n3,y3,a3,b3⟩:=hp 3 3 9 rfl
  obtain ⟨n4,y4,a4,b4⟩:=hp 4 4 4 rfl
  obtain ⟨n5,y5,a5,b5⟩:=hp 5 5 3 rfl
  rw [one_cell DF (v:=v0) rfl] at a0
  rw [one_cell DF (v:=v1) rfl] at a1
  rw [one_cell vX (v:=v2) rfl] at a2
  rw [one_cell vX (v:=v3) rfl] at a3
  rw [one_cell XD (v:=v4) rfl] at a4
  rw [one_cell DF (v:=v5) rfl] at a5
  obtain ⟨k,g0,r0⟩:=Rd.int DC eh w n0 _ _ a0 b0
  obtain ⟨m,g1,r1⟩:=Rd.int DC eh w n1 _ _ a1 b1
  obtain ⟨nm,g2,r2⟩:=Rd.str vW eh w n2 _ _ a2 b2
  obtain ⟨s,g3,r3⟩:=Rd.str vW eh w n3 _ _ a3 b3
  obtain ⟨g,_,r4⟩:=Rd.bool XC eh w n4 _ _ a4 b4
  obtain ⟨e,g5,r5⟩:=Rd.int DC eh w n5 _ _ a5 b5
  refine ⟨⟨k,m,nm,s,g,e⟩,⟨g0,g1,g2,g3,g5⟩,rfl,fun i p v h1 h2=>?_⟩
  match i with
  | 0=>simp [av,PV.cells] at h1 h2;subst h1;subst h2;exact r0.2 0 _ _ rfl rfl
  | 1=>simp [av,PV.cells] at h1 h2;subst h1;subst h2;exact r1.2 0 _ _ rfl rfl
  | 2=>simp [av,PV.cells] at h1 h2;subst h1;subst h2;exact r2.2 0 _ _ rfl rfl
  | 3=>simp [av,PV.cells] at h1 h2;subst h1;subst h2;exact r3.2 0 _ _ rfl rfl
  | 4=>simp [av,PV.cells] at h1 h2;subst h1;subst h2;exact r4.2 0 _ _ rfl rfl
  | 5=>simp [av,PV.cells] at h1 h2;subst h1;subst h2;exact r5.2 0 _ _ rfl rfl
  | i+6=>simp [av,PV.cells] at h1
structure Big (v:Vl):Prop where
 len:v.length≤1152921504606846976
 txt:∀ n ∈ v,n.s.length≤4611686018427387904∧n.name.length≤4611686018427387904
 nd:∀ n ∈ v,U8 n
structure acA (l:List Vl):Prop where
 len:l.length≤1152921504606846976
 all:∀ v ∈ l,Big v
theorem adt {t e:TypeId}{α:Type}{enc:α→PV}{good:α→Prop}(hu:Tryz.prog.underlying t=some (.slice e)) (hr:Rd Tryz.prog t enc good) (h1:∀ a,(enc a).cells=[enc a]){H:Type}{eh:TypeId×Value→H}{w:World}{base:Nat}{v:Value}{d:DataW H}{p:List MemPlace}
  (hv:Value.okWide Tryz.prog w .any base t v) (h:DataW.Trod eh Tryz.prog w 0 (fun _=>true) true t v d p) (hw:∀ n ∈ DataW.weights Tryz.prog t d,n≤reachBytes):∃ a:α,good a∧dA w (fun _=>True) (enc a) v:=by
 obtain ⟨ad,len,cap,rfl⟩:=Go.WideShapes.okWide_slice hu hv
 obtain ⟨fuel,h⟩:=h
 obtain ⟨a,g,r⟩:=hr eh w fuel _ _ h hw
 rw [h1 a] at r
 exact ⟨a,g,r.2 0 _ _ rfl rfl⟩
theorem cZ {R:PV→Value→Prop}{p:PV}{ps:List PV}{v:Value}{vs:List Value}(h:R p v) (hs:cu R ps vs):cu R (p::ps) (v::vs):=
 ⟨by simp [hs.1],fun i q u h1 h2=>by
  cases i with
  | zero=>simp at h1 h2;subst h1;subst h2;exact h
  | succ i=>exact hs.2 i q u (by simpa using h1) (by simpa using h2)⟩
theorem Gu {R:PV→Value→Prop}:cu R [] []:=⟨rfl,fun i q u h1=>by simp at h1⟩
end Lp
namespace Lp
open Go Go.Proofs Go.RowKit
structure adF (l:List f_):Prop where
 len:l.length≤1152921504606846976
 all:∀ a ∈ l,oP a.c
end Lp
namespace Lp
open Go Go.Proofs Go.Shelf Go.RowKit Go.Lib Go.ChangeAt
def XE:List (String×DataW Unit):=[("unicode/utf8.acceptRanges",Lib.acceptData),("unicode/utf8.first",Lib.firstData)]
noncomputable def U9 (os:Os):World:=
 let w0:=World.holding Tryz.prog os ⟨#[],#[],[]⟩
 let put (h:Array Go.Obj) (g:Nat) (cs:Array Value):Array Go.Obj:=h.modify g fun
  | .cells _ t frozen=>.cells cs t frozen
  | o=>o
 let h1:=put w0.heap 0 (Lib.firstTab.map fun z=>Value.int .u8 z).toArray
 let h2:=put h1 1 ((List.range 16).flatMap fun i=>[Value.int .u8 (Lib.accLo i),Value.int .u8 (Lib.accHi i)]).toArray
 { w0 with heap:=h2 }
theorem acB (os:Os) (args:Array Value):laidMet Tryz.prog XE ((U9 os).forCall (fun _ _=>0) ⟨#[],args,[]⟩).memory:=
 (LaidIn.of_run (l:=XE) [1,0] 8 (by kernel_rfl) (by kernel_rfl) (by kernel_rfl) (by kernel_rfl)).met
theorem U_ {w W:World}(h:w.heap=W.heap) (hT:Lib.Utf8Tabs 0 1 W):Lib.Utf8Tabs 0 1 w:=by
 have e:∀ b:Nat,w.heap[b]?=W.heap[b]?:=fun b=>by rw [h]
 refine ⟨fun c hc=>?_,fun i hi=>⟨?_,?_⟩⟩
 · rw [oV (e 0)];exact hT.1 c hc
 · rw [oV (e 1)];exact (hT.2 i hi).1
 · rw [oV (e 1)];exact (hT.2 i hi).2
theorem abx {W:World}(h:laidMetH Tryz.prog XE W):qQ.holds W.heap:=by
 have hT:Lib.Utf8Tabs 0 1 W:=
  utf8Tabs_of_readsT (U8Types.of196 Tryz.Ku) ⟨by kernel_rfl,by kernel_rfl,by kernel_rfl,by kernel_rfl,by kernel_rfl,by kernel_rfl,by kernel_rfl⟩ (Lib.laidMet.reads h (.tail _ (.head _))) (Lib.laidMet.reads h (.head _))
 intro w hw
 exact U_ hw hT
structure adN (l:List (List UInt8)):Prop where
 len:l.length≤1152921504606846976
 all:∀ s ∈ l,s.length≤4611686018427387904
end Lp
namespace Lp
open Go Go.Proofs
theorem XF:∃ fs:Array Field,Tryz.prog.underlying 29=some (.struct fs)∧fs.toList.map (fun f=>(f.offset,f.type))=[(0,3),(1,27)]:=
 ⟨Tryz.prog.fieldsOf 29,by kernel_rfl,by kernel_rfl⟩
instance :Inhabited f_:=⟨⟨0,⟨0,0,[],[],false,0⟩⟩⟩
structure adu (a:f_):Prop where
 n:GK .i64 a.n
 c:U8 a.c
theorem Y8:Rd Tryz.prog 29 bP adu:=by
 intro H eh w fuel cs x h hw
 obtain ⟨fs,ht,hfs⟩:=XF
 obtain ⟨hl,hp⟩:=oL ht h hw
 rw [hfs] at hp
 have hc:Tryz.prog.cellsOf 29=7:=by kernel_rfl
 rw [hc] at hl
 match cs,hl with
 | [v0,v1,v2,v3,v4,v5,v6],_=>
  obtain ⟨n0,y0,a0,b0⟩:=hp 0 0 3 rfl
  obtain ⟨n1,y1,a1,b1⟩:=hp 1 1 27 rfl
  have hcd:Tryz.prog.cellsOf 27=6:=by kernel_rfl
  rw [hcd] at a1
  rw [one_cell DF (v:=v0) rfl] at a0
  obtain ⟨k,g0,r0⟩:=Rd.int DC eh w n0 _ _ a0 b0
  obtain ⟨c,g1,r1⟩:=SF eh w n1 _ _ a1 b1
  refine ⟨⟨k,c⟩,⟨g0,g1⟩,?_⟩
  exact cZ (r0.2 0 _ _ rfl rfl) (cZ (r1.2 0 _ v1 rfl rfl) (cZ (r1.2 1 _ v2 rfl rfl) (cZ (r1.2 2 _ v3 rfl rfl) (cZ (r1.2 3 _ v4 rfl rfl) (cZ (r1.2 4 _ v5 rfl rfl) (cZ (r1.2 5 _ v6 rfl rfl) Gu))))))
theorem U8.sm {n:Nd}(h:U8 n):oP n:=by
 have h1:=h.name
 have h2:=h.s
 rw [reachBytes] at h1 h2
 exact ⟨by omega,by omega⟩
section
variable {H:Type}{eh:TypeId×Value→H}{w:World}{base:Nat}{v:Value}{d:DataW H}{p:List MemPlace}
theorem Va {t:TypeId}{α:Type}{enc:α→PV}{good:α→Prop}(hu:∃ fs,Tryz.prog.underlying t=some (.struct fs)) (hr:Rd Tryz.prog t enc good) (h1:∀ a,enc a=.agg (enc a).cells)
  (hv:Value.okWide Tryz.prog w .any base t v) (h:DataW.Trod eh Tryz.prog w 0 (fun _=>true) true t v d p) (hw:∀ n ∈ DataW.weights Tryz.prog t d,n≤reachBytes):∃ a:α,good a∧dA w (fun _=>True) (enc a) v:=by
 obtain ⟨fs,hu⟩:=hu
 obtain ⟨⟨cs⟩,rfl,_⟩:=Go.WideShapes.okWide_struct hu hv
 obtain ⟨fuel,h⟩:=h
 obtain ⟨a,g,r⟩:=hr eh w fuel _ _ h hw
 refine ⟨a,g,?_⟩
 rw [h1 a]
 exact .agg _ _ r.1 r.2
end
end Lp
namespace Lp
open Go Go.Proofs
theorem adv:∃ fs:Array Field,Tryz.prog.underlying 51=some (.struct fs)∧fs.toList.map (fun f=>(f.offset,f.type))=[(0,3),(1,3),(2,9),(3,9),(4,3),(5,27)]:=
 ⟨Tryz.prog.fieldsOf 51,by kernel_rfl,by kernel_rfl⟩
instance :Inhabited eT:=⟨⟨0,0,[],[],0,⟨0,0,[],[],false,0⟩⟩⟩
structure adw (a:eT):Prop where
 name:a.name.length≤reachBytes
 s:a.s.length≤reachBytes
 c:U8 a.c
theorem acC:Rd Tryz.prog 51 aV adw:=by
 intro H eh w fuel cs x h hw
 obtain ⟨fs,ht,hfs⟩:=adv
 obtain ⟨hl,hp⟩:=oL ht h hw
 rw [hfs] at hp
 have hc:Tryz.prog.cellsOf 51=11:=by kernel_rfl
 rw [hc] at hl
 match cs,hl with
 | [v0,v1,v2,v3,v4,v5,v6,v7,v8,v9,v10],_=>
  obtain ⟨n0,y0,a0,b0⟩:=hp 0 0 3 rfl
  obtain ⟨n1,y1,a1,b1⟩:=hp 1 1 3 rfl
  obtain ⟨n2,y2,a2,b2⟩:=hp 2 2 9 rfl
  obtain ⟨n3,y3,a3,b3⟩:=hp 3 3 9 rfl
  obtain ⟨n4,y4,a4,b4⟩:=hp 4 4 3 rfl
  obtain ⟨n5,y5,a5,b5⟩:=hp 5 5 27 rfl
  have hcd:Tryz.prog.cellsOf 27=6:=by kernel_rfl
  rw [hcd] at a5
  rw [one_cell DF (v:=v0) rfl] at a0
  rw [one_cell DF (v:=v1) rfl] at a1
  rw [one_cell vX (v:=v2) rfl] at a2
  rw [one_cell vX (v:=v3) rfl] at a3
  rw [one_cell DF (v:=v4) rfl] at a4
  obtain ⟨k,g0,r0⟩:=Rd.int DC eh w n0 _ _ a0 b0
  obtain ⟨m,g1,r1⟩:=Rd.int DC eh w n1 _ _ a1 b1
  obtain ⟨nm,g2,r2⟩:=Rd.str vW eh w n2 _ _ a2 b2
  obtain ⟨s,g3,r3⟩:=Rd.str vW eh w n3 _ _ a3 b3
  obtain ⟨n,g4,r4⟩:=Rd.int DC eh w n4 _ _ a4 b4
  obtain ⟨c,g5,r5⟩:=SF eh w n5 _ _ a5 b5
  refine ⟨⟨k,m,nm,s,n,c⟩,⟨g2,g3,g5⟩,?_⟩
  exact cZ (r0.2 0 _ _ rfl rfl) (cZ (r1.2 0 _ _ rfl rfl) (cZ (r2.2 0 _ _ rfl rfl) (cZ (r3.2 0 _ _ rfl rfl) (cZ (r4.2 0 _ _ rfl rfl)
   (cZ (r5.2 0 _ v5 rfl rfl) (cZ (r5.2 1 _ v6 rfl rfl) (cZ (r5.2 2 _ v7 rfl rfl) (cZ (r5.2 3 _ v8 rfl rfl) (cZ (r5.2 4 _ v9 rfl rfl) (cZ (r5.2 5 _ v10 rfl rfl) Gu))))))))))
theorem abe:Tryz.prog.underlying 23=some (.slice 51):=by kernel_rfl
theorem acQ:Rd Tryz.prog 23 aA SE:=by
 intro H eh w fuel cs x h hw
 obtain ⟨v,⟨h1,h2⟩,h3⟩:=Rd.slice (sz:=11) abe acC (by kernel_rfl) (by decide) (fun _=>rfl) eh w fuel cs x h hw
 have hb:Tryz.prog.bytesOf 51=120:=by kernel_rfl
 rw [hb,reachBytes] at h1
 refine ⟨v,⟨by omega,fun n hn=>?_,fun n hn=>?_⟩,h3⟩
 · have g:=h2 n hn
   have g1:=g.name
   have g2:=g.s
   have g3:=g.c.s
   rw [reachBytes] at g1 g2 g3
   exact ⟨by omega,by omega,by omega⟩
 · have g:=(h2 n hn).c.name
   rw [reachBytes] at g
   omega
end Lp
namespace Lp
open Go Go.Proofs
end Lp
namespace Lp
open Go Go.Proofs
end Lp
namespace Lp
open Go Go.Proofs
theorem zM:aS Tryz.prog 8 67 [.tmp 2] (gen [] [(9,none)] [] Tryz.f8):=bq Tryz.func8 rfl (by kernel_rfl)
theorem JC:aS Tryz.prog 27 58 [.cell 4 3,.cell 5 4] (gen [] [(0,none)] [] Tryz.f27):=bq Tryz.func27 rfl (by kernel_rfl)
theorem Io:aS Tryz.prog 11 44 [.tmp 6,.tmp 7] (gen [42] [] [] Tryz.f11):=bq Tryz.func11 rfl (by kernel_rfl)
theorem xR:aS Tryz.prog 12 63 [.tmp 6,.tmp 7] (gen [34] [] [] Tryz.f12):=bq Tryz.func12 rfl (by kernel_rfl)
theorem Ip:aS Tryz.prog 57 46 [.tmp 4] (gen [] [(4134,some (1,2))] [11] Tryz.f57):=bq Tryz.func57 rfl (by kernel_rfl)
theorem Ec:aS Tryz.prog 87 28 [.tmp 4] (gen [] [] [1,2] Tryz.f87):=bq Tryz.func87 rfl (by kernel_rfl)
theorem gF:aS Tryz.prog 88 8 [.tmp 2] (gen [5] [] [] Tryz.f88):=bq Tryz.func88 rfl (by kernel_rfl)
theorem Rs:aS Tryz.prog 20 118 [.tmp 4] (gen [] [] [2,4] Tryz.f20):=bq Tryz.func20 rfl (by kernel_rfl)
theorem LF:aS Tryz.prog 56 11 [.tmp 5] (gen [] [] [] Tryz.f56):=bq Tryz.func56 rfl (by kernel_rfl)
theorem zN:aS Tryz.prog 10 55 [.tmp 0] (gen [] [] [] Tryz.f10):=bq Tryz.func10 rfl (by kernel_rfl)
theorem qK:aS Tryz.prog 3 65 [.tmp 6] (gen [] [] [] Tryz.f3):=bq Tryz.func3 rfl (by kernel_rfl)
end Lp
namespace Lp
open Go Go.Proofs
def XG (c:Vl→Vl→Int):List Vl→Bool
 | a::b::l=>decide (0≤c b a) && XG c (b::l)
 | _=>true
end Lp
namespace Lp
open Go Go.Proofs
def XH (v:Vl) (x:Stp):Vl×Int:=
 if x.part then (if Dt v=5 then (match (bK v)[x.n.toNat]? with | some w=>(w,0) | none=>([],6)) else ([],5))
 else if Dt v=6 then (match Xn v x.name with | some w=>(w,0) | none=>([],6)) else ([],5)
def acD:List Stp→Vl→Vl×Int
 | [],v=>(v,0)
 | x::p,v=>if (XH v x).2=0 then acD p (XH v x).1 else ([],(XH v x).2)
def XI (s:List UInt8) (v:Vl):Vl:=(acD (fA s) v).1
def XJ:Vl→Int
 | []=>0
 | n::_=>n.many
def XK:Vl→List UInt8
 | []=>[]
 | n::_=>n.s
def acE (g:aK→Vl→Bool) (v:Vl) (names:List (List UInt8)) (ts:List aK):Bool:=(names.zip ts).all fun x=>match Xn v x.1 with | some w=>g x.2 w | none=>false
def adx (g:aK→Vl→Bool) (ts:List aK) (l:List Vl):Bool:=(ts.zip l).all fun x=>g x.1 x.2
def Y9:List UInt8:=[107,101,121]
def abf:List UInt8:=[118,97,108,117,101]
def ady (g:Vl→Bool) (x:Vl):Bool:=match Xn x Y9,Xn x abf with
 | some k,some w=>XJ x==2 && Dt k==4 && g w
 | _,_=>false
def aan (g:Vl→Bool):Option (List UInt8)→List Vl→Bool
 | _,[]=>true
 | last,x::l=>ady g x && (match last with | none=>true | some a=>!(Op.bytesLess (XK (QH x Y9)) a || decide (XK (QH x Y9)=a))) && aan g (some (XK (QH x Y9))) l
def acF:Vl→Vl→Int:=jh kL 1000000
def adz (g:Vl→Bool) (s:List UInt8) (x:Vl):Bool:=Dt x==5 && XJ x !=0 && (bK x).all g && (bK x).all fun y=>XI s y==XI s ((bK x).headD [])
def aao (g:Vl→Bool) (s:List UInt8):Option Vl→List Vl→Bool
 | _,[]=>true
 | last,x::l=>adz g s x && (match last with | none=>true | some a=>decide (acF a (XI s ((bK x).headD []))<0)) && aao g s (some (XI s ((bK x).headD []))) l
def inF:Nat→aK→Vl→Bool
 | f+1,n::r,v=>
  if n.kind=0 then true
  else if n.kind=1 then v.length==1 && cK n.n (dB (n::r)) (v.headD aW)
  else if n.kind=2 then Dt v==6 && acE (inF f) v (nZ (n::r)) (bZ (n::r)) && (n.n==1 || XJ v==(nZ (n::r)).length)
  else if n.kind=3 then Dt v==6 && (bK v).all (inF f ((bZ (n::r)).headD []))
  else Dt v==5 && (
   if n.kind=4 then adx (inF f) (bZ (n::r)) (bK v) && (bK v).length==(bZ (n::r)).length
   else if n.kind=6 then aan (inF f ((bZ (n::r)).headD [])) none (bK v)
   else if n.kind=8 then aao (inF f ((bZ (n::r)).headD [])) n.s none (bK v)
   else if n.kind=7 then (bK v).all (inF f ((bZ (n::r)).headD [])) && XG acF ((bK v).map (XI n.s))
   else (bK v).all (inF f ((bZ (n::r)).headD [])))
 | _,_,_=>false
def inT (t:aK) (v:Vl):Bool:=inF t.length t v
theorem ES.head {n:eT}{r:aK}(h:ES bB fA (n::r)) (hk:n.kind=3∨n.kind=5∨n.kind=6∨n.kind=7∨n.kind=8):∃ p,bZ (n::r)=[p]∧ES bB fA p∧p.length≤r.length:=by
 obtain ⟨h1,h2,ps,h3,h4,_⟩:=h.parts
 have hm:n.many=1:=by
  rcases hk with k | k | k | k | k <;> simp [b_,k] at h1 <;> omega
 have hl:=Y.bN _ _ _ h3
 have e:bZ (n::r)=ps.map Y.jW:=by
  have:n.kind≠1:=by omega
  simp only [bZ,this,if_false,jC h3]
 rw [hm] at hl
 match ps,hl with
 | [p],_=>
  have:=h.part (Y.jW p) (by rw [e];exact List.mem_cons_self ..)
  exact ⟨Y.jW p,by rw [e];rfl,this⟩
end Lp
namespace Lp
open Go Go.Proofs
structure HKT (K:KT):Type where
end Lp
namespace Lp
open Go Go.Proofs
end Lp
namespace Lp
open Go Go.Proofs
theorem Big.small {v:Vl}(h:Big v) (hl:v.length≤1000000):Small v:=⟨hl,h.txt⟩
theorem acA.txt {l:List Vl}(h:acA l):∀ v ∈ l,v.length≤1152921504606846976∧∀ n ∈ v,n.s.length≤4611686018427387904∧n.name.length≤4611686018427387904:=fun v hv=>⟨(h.all v hv).len,(h.all v hv).txt⟩
theorem Ru {v:Vl}(hr:Rt v){q:Nd→Prop}(hq:∀ n,q n→q { n with name:=[] }) (hv:∀ n ∈ v,q n):∀ p ∈ bK v,∀ n ∈ p,q n:=by
 obtain ⟨n,r,rfl,_⟩:=EO hr.name hr.one.ne
 obtain ⟨h1,h2,ps,h3,h4,_,_,_⟩:=hr.parts
 simp only [bK,(fP h3).1]
 intro p hp m hm
 obtain ⟨p',hp',rfl⟩:=List.mem_map.1 hp
 have hin:∀ x ∈ p',q x:=fun x hx=>hv x (List.mem_cons_of_mem _ (by rw [← h4];exact List.mem_flatten.2 ⟨p',hp',hx⟩))
 cases p' with
 | nil=>cases hm
 | cons a t=>
  rcases List.mem_cons.1 hm with rfl | hm
  · exact hq a (hin a (by simp))
  · exact hin m (List.mem_cons_of_mem _ hm)
end Lp
namespace Lp
open Go Go.Proofs
end Lp
namespace Lp
open Go Go.Proofs
end Lp
namespace Lp
open Go Go.Proofs
structure JD (v:Vl):Prop where
 rt:Rt v
 len:v.length≤1000000
 nd:∀ n ∈ v,n.s.length≤1000000∧n.name.length≤4611686018427387904
structure Y_ (t:aK):Prop where
 wit:yD t
 ss:∀ n ∈ t,n.s.length≤1000000000
theorem Y_.part {n:eT}{r:aK}(h:Y_ (n::r)):∀ p ∈ bZ (n::r),Y_ p∧p.length≤r.length:=by
 intro p hp
 have h1:=h.wit.part p hp
 refine ⟨⟨h1.1,?_⟩,h1.2⟩
 by_cases hk:n.kind=1
 · simp only [bZ,hk,if_true] at hp;cases hp
 simp only [bZ,hk,if_false] at hp
 obtain ⟨_,_,ps,h3,h4,_⟩:=h.wit.rt.parts
 rw [jC h3] at hp
 obtain ⟨q,hq,rfl⟩:=List.mem_map.1 hp
 have hr:∀ x ∈ q,x ∈ r:=fun x hx=>by rw [← h4];exact List.mem_flatten.2 ⟨q,hq,hx⟩
 intro x hx
 cases q with
 | nil=>cases hx
 | cons y z=>
  rcases List.mem_cons.1 hx with rfl | hx
  · exact h.ss y (List.mem_cons_of_mem _ (hr y (List.mem_cons_self ..)))
  · exact h.ss x (List.mem_cons_of_mem _ (hr x (List.mem_cons_of_mem _ hx)))
theorem JD.part {v:Vl}(h:JD v):∀ p ∈ bK v,JD p∧p.length<v.length:=by
 intro p hp
 have h1:=SQ h.rt hp
 have hl:=h.len
 exact ⟨⟨h1.1,by omega,Ru h.rt (q:=fun n=>n.s.length≤1000000∧n.name.length≤4611686018427387904) (fun n h=>⟨h.1,by simp⟩) h.nd p hp⟩,h1.2⟩
theorem JD.ok2 {v:Vl}(h:JD v):YW v:=by
 refine ⟨h.rt.one,h.len,fun n hn hk=>?_⟩
 obtain ⟨i,hi,rfl⟩:=List.mem_iff_getElem.1 hn
 have hp:=(h.rt.good i v[i] (v.drop (i+1)) (List.drop_eq_getElem_cons hi)).1
 simp only [bF,hk,Int.reduceEq,or_self,if_false,if_true,qB,Bool.and_eq_true,decide_eq_true_eq] at hp
 obtain ⟨⟨⟨⟨⟨⟨_,h2⟩,h3⟩,h4⟩,h5⟩,_⟩,_⟩:=hp
 exact ⟨by omega,h2,h4,h5⟩
def Za (f:Nat):dN:=fun args objs K=>match args with
 | [a0,a1]=>gu aA a0 (HK.mk:HK fun t=>gu aM a1 (HK.mk:HK fun v=>(t.length≤f)∧(Y_ t)∧(JD v)∧K (.bool (inT t v)) objs 0))
 | _=>False
theorem Vb (p:List Stp) (t:aK):gq p (Y.jW t)=gq p t:=by
 cases t with
 | nil=>rfl
 | cons n r=>cases p <;> rfl
section
variable {f:Nat}(hin:aD Tryz.prog 18 (Za f))
include hin
end
end Lp
namespace Lp
open Go Go.Proofs
theorem ES.key {n:eT}{r p:aK}(h:ES bB fA (n::r)) (hk:n.kind=7∨n.kind=8) (hp:bZ (n::r)=[p]):(gq (fA n.s) p).isSome=true:=by
 obtain ⟨_,_,ps,h3,_,_,h6,_⟩:=h.parts
 have e:bZ (n::r)=ps.map Y.jW:=by
  have:n.kind≠1:=by omega
  simp only [bZ,this,if_false,jC h3]
 rw [e] at hp
 match ps,hp with
 | [q],hp=>
  simp only [List.map_cons,List.map_nil,List.cons.injEq,and_true] at hp
  subst hp
  rw [Vb]
  simp only [xV,hk,if_true] at h6
  unfold eF at h6
  cases hl:gq (fA n.s) q with
  | none=>rw [hl] at h6;cases h6
  | some j=>rfl
end Lp
namespace Lp
open Go Go.Proofs
end Lp
namespace Lp
open Go Go.Proofs
end Lp
namespace Lp
open Go Go.Proofs
open List (append_assoc drop_zero length_append length_cons length_drop)
def kF (a:f_):eT:=⟨9,0,[],[],a.n,a.c⟩
def kN (t:aK) (i:Nat) (a:f_):aK:=match t[i]? with
 | some x=>t.take i++({ x with many:=x.many+1 }::((t.drop (i+1)).take x.many.toNat++kF a::t.drop (i+1+x.many.toNat)))
 | none=>t
theorem XL (A q B:aK) (j:Nat) (a:f_){y:eT}(hy:q[j]?=some y) (hm:j+1+y.many.toNat≤q.length):kN (A++q++B) (A.length+j) a=A++kN q j a++B:=by
 have hj:=(List.getElem?_eq_some_iff.1 hy).1
 have h1:(A++q++B)[A.length+j]?=some y:=by
  rw [append_assoc,List.getElem?_append_right (by omega),Nat.add_sub_cancel_left,List.getElem?_append_left hj,hy]
 have d1:(A++q++B).take (A.length+j)=A++q.take j:=by
  rw [append_assoc,List.take_append,List.take_of_length_le (by omega),Nat.add_sub_cancel_left,List.take_append_of_le_length (by omega)]
 have dr:∀ k,k≤q.length→(A++q++B).drop (A.length+k)=q.drop k++B:=fun k hk=>by
  rw [append_assoc,List.drop_append,List.drop_eq_nil_of_le (by omega),Nat.add_sub_cancel_left,List.nil_append,List.drop_append_of_le_length hk]
 have d2:=dr (j+1) (by omega)
 have d3:=dr (j+1+y.many.toNat) hm
 unfold kN
 rw [h1,hy]
 simp only
 rw [d1,show A.length+j+1=A.length+(j+1) by omega,d2,show A.length+(j+1)+y.many.toNat=A.length+(j+1+y.many.toNat) by omega,d3,List.take_append_of_le_length (by rw [length_drop];omega)]
 simp
theorem OM {t:aK}{i:Nat}{a:f_}{x:eT}(h:t[i]?=some x) (hm:i+1+x.many.toNat≤t.length):(kN t i a).length=t.length+1:=by
 unfold kN
 rw [h]
 simp only [length_append,length_cons,List.length_take,length_drop]
 omega
theorem Y.vY (nm:List UInt8):∀ (o:Nat) (ps:List aK) (o':Nat) (q:aK),kI nm o ps=some (o',q)→∃ A B,ps=A++q::B∧o'=o+A.flatten.length∧Y.nameOf q=nm
 | _,[],_,_,h=>by cases h
 | o,b::ps,o',q,h=>by
  rw [kI] at h
  split at h
  · rename_i hn;cases h;exact ⟨[],ps,rfl,rfl,hn⟩
  · obtain ⟨A,B,rfl,h2,h3⟩:=Y.vY nm _ ps o' q h
    exact ⟨b::A,B,rfl,by rw [h2];simp only [List.flatten_cons,length_append];omega,h3⟩
section
variable {pk:List UInt8→Bool}{pth:List UInt8→List Stp}
theorem XM {a:f_}(ha:gY a=true):Y.One [kF a]∧Y.Good (jK pk pth) [kF a]:=by
 refine ⟨rfl,?_⟩
 intro i n r h
 cases i with
 | succ i=>simp at h
 | zero=>
  simp only [drop_zero,List.cons.injEq] at h
  obtain ⟨rfl,rfl⟩:=h
  refine ⟨[],rfl,?_⟩
  have:gY ⟨(kF a).n,(kF a).c⟩=true:=ha
  simp [jK,b_,kF,uz,xV,xU]
  exact ha
theorem JE {x:eT}{ps:List aK}(hn:x.many=ps.length) (ho:∀ p ∈ ps,Y.One p) (hg:∀ p ∈ ps,Y.Good (jK pk pth) p) (hx:jK pk pth x ps=true):Y.One (x::ps.flatten)∧Y.Good (jK pk pth) (x::ps.flatten):=by
 refine ⟨Y.One.made hn ho,?_⟩
 intro i m s hd
 cases i with
 | succ i=>exact Y.Good.made ps ho hg i m s (by simpa using hd)
 | zero=>
  simp only [drop_zero,List.cons.injEq] at hd
  obtain ⟨rfl,rfl⟩:=hd
  exact ⟨ps,by rw [hn,Int.toNat_natCast];exact Y.jB ps ho,hx⟩
theorem sj {p:List Stp}{t:aK}{i:Nat}(h:eF p t=some i):∃ x,t[i]?=some x∧x.kind=1∧gq p t=some i:=by
 unfold eF at h
 cases hl:gq p t with
 | none=>rw [hl] at h;cases h
 | some j=>
  rw [hl] at h
  simp only at h
  split at h
  · rename_i hk
    cases h
    cases hx:t[i]? with
    | none=>rw [hx] at hk;cases hk
    | some x=>rw [hx] at hk;exact ⟨x,rfl,by simpa using hk,rfl⟩
  · cases h
theorem Zb {p:List Stp}{t:aK}{i:Nat}{x:eT}(h:gq p t=some i) (hx:t[i]?=some x) (hk:x.kind=1):eF p t=some i:=by
 unfold eF;rw [h];simp only;rw [hx];simp [hk]
theorem CS {t:aK}{i:Nat}{x:eT}(hg:Y.Good (jK pk pth) t) (hx:t[i]?=some x):i+1+x.many.toNat≤t.length:=by
 obtain ⟨hi,rfl⟩:=List.getElem?_eq_some_iff.1 hx
 obtain ⟨ps,h1,_⟩:=hg i t[i] (t.drop (i+1)) (List.drop_eq_getElem_cons hi)
 have:=Y.fZ _ _ _ h1
 rw [length_drop] at this
 omega
theorem XO {a:f_}(ha:gY a=true):∀ (p:List Stp) (t:aK) (i:Nat),Y.One t→Y.Good (jK pk pth) t→eF p t=some i→
  Y.One (kN t i a)∧Y.Good (jK pk pth) (kN t i a)∧Y.nameOf (kN t i a)=Y.nameOf t∧Y.kindOf (kN t i a)=Y.kindOf t
 | p,[],_,ho,_,_=>absurd rfl ho.ne
 | [],x::r,i,ho,hg,hl=>by
  obtain ⟨x',hx,hk,hl'⟩:=sj hl
  rw [gq] at hl';cases hl'
  cases hx
  obtain ⟨hm,ps,h1,h2,h3⟩:=ho.parts
  obtain ⟨qs,q1,q2⟩:=hg 0 x r rfl
  rw [h1] at q1;cases q1
  have hgs:Y.Good (jK pk pth) ps.flatten:=by rw [h2];exact (show Y.Good _ ([x]++r) from hg).Yb
  have X3:=Y.Good.ji ps h3 hgs
  have hpl:=Y.bN _ _ _ h1
  have hrl:r.length=x.many.toNat:=by
   have q3:=q2
   simp only [jK,Bool.and_eq_true] at q3
   have:=(Js hk q3.1.2 h3 X3).1
   rw [h2] at this;omega
  have e:kN (x::r) 0 a={ x with many:=x.many+1 }::(ps++[[kF a]]).flatten:=by
   unfold kN
   simp only [List.getElem?_cons_zero,List.take_zero,List.nil_append,Nat.zero_add,List.drop_succ_cons,drop_zero,List.flatten_append,h2,List.flatten_cons,List.flatten_nil,List.append_nil]
   rw [show 1+x.many.toNat=x.many.toNat+1 by omega,List.drop_succ_cons,← hrl,List.take_length,List.drop_length]
  rw [e]
  obtain ⟨a1,a2⟩:=XM (pk:=pk) (pth:=pth) ha
  have hrow:jK pk pth { x with many:=x.many+1 } (ps++[[kF a]])=true:=by
   simp only [jK,Bool.and_eq_true,b_,hk,Int.reduceEq,if_false,if_true,decide_eq_true_eq,uz,List.all_eq_true] at q2 ⊢
   refine ⟨⟨⟨⟨⟨⟨by omega,q2.1.1.1.1.1.2⟩,q2.1.1.1.1.2⟩,q2.1.1.1.2⟩,q2.1.1.2⟩,fun p hp=>?_,by simp⟩,by simp [xV,hk]⟩
   rcases List.mem_append.1 hp with hp | hp
   · have:=q2.1.2.1 p hp
     simp only [xu,hk] at this ⊢
     exact this
   · rw [List.mem_singleton.1 hp]
     simp [xu,hk,kF,Y.kindOf,Y.nameOf]
  obtain ⟨m1,m2⟩:=JE (x:={ x with many:=x.many+1 }) (ps:=ps++[[kF a]]) (by rw [length_append];simp;omega) (fun p hp=>by
   rcases List.mem_append.1 hp with hp | hp
   · exact h3 p hp
   · rw [List.mem_singleton.1 hp];exact a1) (fun p hp=>by
   rcases List.mem_append.1 hp with hp | hp
   · exact X3 p hp
   · rw [List.mem_singleton.1 hp];exact a2) hrow
  exact ⟨m1,m2,rfl,rfl⟩
 | s::p,x::r,i,ho,hg,hl=>by
  obtain ⟨x',hx,hk,hl'⟩:=sj hl
  obtain ⟨hm,ps,h1,h2,h3⟩:=ho.parts
  obtain ⟨qs,q1,q2⟩:=hg 0 x r rfl
  rw [h1] at q1;cases q1
  have hgs:Y.Good (jK pk pth) ps.flatten:=by rw [h2];exact (show Y.Good _ ([x]++r) from hg).Yb
  have X3:=Y.Good.ji ps h3 hgs
  have hpl:=Y.bN _ _ _ h1
  have hpo:Y.partsOf x r=ps:=by simp [Y.partsOf,h1]
  rw [gq] at hl'
  split at hl'
  · rename_i hk2
    rw [hpo] at hl'
    cases hf:kI s.name 1 ps with
    | none=>rw [hf] at hl';cases hl'
    | some oq=>
     obtain ⟨o,q⟩:=oq
     rw [hf] at hl'
     simp only [Option.map_eq_some_iff] at hl'
     obtain ⟨j,hj,rfl⟩:=hl'
     obtain ⟨A,B,rfl,rfl,hnm⟩:=Y.vY _ _ _ _ _ hf
     have hqm:q ∈ A++q::B:=by simp
     have hjl:=Bv p q j (h3 q hqm) hj
     have hr:x::r=(x::A.flatten)++q++B.flatten:=by rw [← h2];simp
     have hy:q[j]?=some x':=by
      rw [hr,show 1+A.flatten.length+j=(x::A.flatten).length+j by simp only [length_cons];omega,append_assoc,List.getElem?_append_right (by omega),Nat.add_sub_cancel_left,List.getElem?_append_left hjl] at hx
      exact hx
     have hlq:=Zb hj hy hk
     obtain ⟨i1,i2,i3,i4⟩:=XO ha p q j (h3 q hqm) (X3 q hqm) hlq
     have e:kN (x::r) (1+A.flatten.length+j) a=x::(A++kN q j a::B).flatten:=by
      rw [hr,show 1+A.flatten.length+j=(x::A.flatten).length+j by simp only [length_cons];omega,XL _ _ _ _ _ hy (CS (X3 q hqm) hy)]
      simp
     rw [e]
     have hrow:jK pk pth x (A++kN q j a::B)=true:=by
      simp only [jK,Bool.and_eq_true] at q2 ⊢
      refine ⟨⟨q2.1.1,?_⟩,by simp [xV,hk2.1]⟩
      have q3:=q2.1.2
      simp only [uz,Bool.and_eq_true,List.all_eq_true] at q3 ⊢
      refine ⟨fun p' hp=>?_,?_⟩
      · rcases List.mem_append.1 hp with hp | hp
        · exact q3.1 p' (List.mem_append_left _ hp)
        · rcases List.mem_cons.1 hp with rfl | hp
          · have:=q3.1 q hqm
            simp only [xu,i3,i4] at this ⊢
            exact this
          · exact q3.1 p' (List.mem_append_right _ (List.mem_cons_of_mem _ hp))
      · have:(A++kN q j a::B).map Y.nameOf=(A++q::B).map Y.nameOf:=by simp [i3]
        rw [this];exact q3.2
     obtain ⟨m1,m2⟩:=JE (x:=x) (ps:=A++kN q j a::B) (by rw [length_append,length_cons] at hpl ⊢;omega) (fun p' hp=>by
      rcases List.mem_append.1 hp with hp | hp
      · exact h3 p' (List.mem_append_left _ hp)
      · rcases List.mem_cons.1 hp with rfl | hp
        · exact i1
        · exact h3 p' (List.mem_append_right _ (List.mem_cons_of_mem _ hp))) (fun p' hp=>by
      rcases List.mem_append.1 hp with hp | hp
      · exact X3 p' (List.mem_append_left _ hp)
      · rcases List.mem_cons.1 hp with rfl | hp
        · exact i2
        · exact X3 p' (List.mem_append_right _ (List.mem_cons_of_mem _ hp))) hrow
     exact ⟨m1,m2,rfl,rfl⟩
  · cases hl'
theorem abg {a:f_}(ha:gY a=true){p:List Stp}{t:aK}{i:Nat}(h:ES pk pth t) (hl:eF p t=some i):ES pk pth (kN t i a):=by
 obtain ⟨h1,h2,h3,h4⟩:=XO ha p t i h.one h.good hl
 exact ⟨h1,by rw [h3];exact h.name,by rw [h4];exact h.kind,h2⟩
end
end Lp
namespace Lp
open Go Go.Proofs
open List (flatten_cons length_cons mem_singleton)
open Nat (reduceAdd reduceLeDiff reduceMul reduceSub)
open Int (reduceLE reduceToNat)
theorem JF (nm:List UInt8):∀ (o:Nat) (ps:List aK) (i:Nat) (q:aK),ps[i]?=some q→Y.nameOf q=nm→(∀ (j:Nat) q',j<i→ps[j]?=some q'→Y.nameOf q'≠nm)→kI nm o ps=some (o+(ps.take i).flatten.length,q)
 | _,[],_,_,h,_,_=>by simp at h
 | o,b::ps,0,q,h,hn,_=>by
  simp only [List.getElem?_cons_zero,Option.some.injEq] at h
  subst h
  simp [kI,hn]
 | o,b::ps,i+1,q,h,hn,hb=>by
  have hbn:Y.nameOf b≠nm:=hb 0 b (by omega) rfl
  rw [kI,if_neg hbn,JF nm _ ps i q (by simpa using h) hn fun j q' hj hq=>hb (j+1) q' (by omega) (by simpa using hq)]
  simp only [List.take_succ_cons,flatten_cons,List.length_append,Option.some.injEq,Prod.mk.injEq,and_true]
  omega
theorem OO (nm:List UInt8):∀ (o:Nat) (ps:List aK),(∀ (j:Nat) q',ps[j]?=some q'→Y.nameOf q'≠nm)→kI nm o ps=none
 | _,[],_=>rfl
 | o,b::ps,hb=>by
  rw [kI,if_neg (hb 0 b rfl)]
  exact OO nm _ ps fun j q' hq=>hb (j+1) q' (by simpa using hq)
theorem OP:∀ (ps:List aK) (i0 k:Nat) (p:aK),ps[k]?=some p→(jg i0 ps)[k]?=some [.int .i64 ((i0+(ps.take k).flatten.length:Nat):Int),.int .i64 ((i0+(ps.take k).flatten.length+p.length:Nat):Int)]
 | [],_,_,_,h=>by simp at h
 | b::ps,i0,0,p,h=>by
  simp only [List.getElem?_cons_zero,Option.some.injEq] at h
  subst h
  simp [jg]
 | b::ps,i0,k+1,p,h=>by
  simp only [jg,List.getElem?_cons_succ]
  rw [OP ps (i0+b.length) k p (by simpa using h)]
  simp only [List.take_succ_cons,flatten_cons,List.length_append,Nat.add_assoc]
theorem XP {s:Stp}{p:List Stp}{x:eT}{r:aK}{ps:List aK}{o:Nat}{q:aK}(hpo:Y.partsOf x r=ps) (hfl:ps.flatten=r) (hone:∀ p ∈ ps,Y.One p) (hk:x.kind=2) (hs:s.part=false) (hf:kI s.name 1 ps=some (o,q)):eF (s::p) (x::r)=(eF p q).map (o+·):=by
 obtain ⟨A,B,hAB,ho,_⟩:=Y.vY _ _ _ _ _ hf
 have hl:gq (s::p) (x::r)=(gq p q).map (o+·):=by
  rw [gq,if_pos ⟨hk,hs⟩,hpo,hf]
 unfold eF
 rw [hl]
 cases hq:gq p q with
 | none=>rfl
 | some j=>
  simp only [Option.map_some]
  have hqm:q ∈ ps:=by rw [hAB];simp
  have hjl:j<q.length:=by
   have h0:0<q.length:=List.length_pos_iff.2 (hone q hqm).ne
   have:=Gf (p:=p) (hone q hqm) h0
   simp only [iP,Y.zD (hone q hqm),hq,Nat.zero_add] at this
   omega
  have e:(x::r)[o+j]?=q[j]?:=by
   rw [← hfl,hAB,ho,show 1+A.flatten.length+j=(A.flatten.length+j)+1 by omega,List.getElem?_cons_succ,List.flatten_append,List.getElem?_append_right (by omega),Nat.add_sub_cancel_left,flatten_cons,List.getElem?_append_left hjl]
  rw [e]
  split <;> simp
def Vo (t:aK) (p:List Stp) (n:Int) (b:Bool):List Obj:=[xQ t,⟨25,1,[dF p],true,1⟩,⟨3,1,[.int .i64 n],true,1⟩,⟨4,1,[.bool b],true,1⟩]
theorem OQ (t:aK) (p:List Stp) (n:Int) (b:Bool):fQ (Vo t p n b++[uO,hole]):=by
 intro o ho y hy c hc
 simp only [Vo,xQ,List.cons_append,List.nil_append,List.mem_cons,List.not_mem_nil,or_false] at ho
 rcases ho with rfl | rfl | rfl | rfl | rfl | rfl
 · simp only [mem_singleton] at hy;subst hy
   simp only [aA,PV.cells,mem_singleton] at hc;subst hc;rfl
 · simp only [mem_singleton] at hy;subst hy
   simp only [dF,PV.cells,mem_singleton] at hc;subst hc;rfl
 · simp only [mem_singleton] at hy;subst hy
   simp only [PV.cells,mem_singleton] at hc;subst hc;rfl
 · simp only [mem_singleton] at hy;subst hy
   simp only [PV.cells,mem_singleton] at hc;subst hc;rfl
 · cases hy
 · cases hy
theorem XQ (t:aK) (p:List Stp) (n:Int) (b:Bool):Gh 4 (Vo t p n b++[uO,hole]):=⟨Nat.le_refl _,(OQ t p n b).lt,rfl,rfl⟩
def Gv (t:aK) (p:List Stp):Int:=match eF p t with | some i=>(i:Int) | none=>0
def BL (p:List Stp):dN:=fun args objs K=>match args with
 | [a,b]=>gu aA a (HK.mk:HK fun q=>b=dF p∧q.length≤1000000∧Y.One q∧K (iF q p) objs 0)
 | _=>False
theorem Gw:∀ (p:List Stp) (t:aK),t.length≤1000000→Y.One t→p.length≤1000000→ai Tryz.prog 27 [aA t,dF p] [] (iF t p) []
 | [],t,hl,ho,_=>by
  refine JC.QG (T:=aU Tryz.prog []) 1 hD (aj ah) aY (by decide) (by decide) fun Q hQ=>?_
  obtain ⟨n,r,ps,hv,hm,hp,hfl,hps,hpo,hmn,Hg⟩:=t_ t ho
  have hg0:t[0]?=some n:=by rw [hv];rfl
  have hres:iF t []=.bT [.int .i64 0,.bool (decide (n.kind=1))]:=by
   simp only [iF,eF,gq,hg0,Option.map_some,Option.some.injEq]
   by_cases hk:n.kind=1 <;> simp [hk]
  have c00:((0:Nat):Int)=0:=rfl
  (conv=>arg 4;cbv);simp(maxSteps:=400000)only[↓ax,ay,BEq.rfl,reduceIte,reduceCtorEq,Nat.reduceLT,reduceAdd,reduceSub,reduceMul,Nat.reduceBEq,reduceLeDiff,reduceToNat,reduceLE,hQ,hg0,c00]
  and_intros <;> first | rfl | decide | exact Nat.le_refl _ | (rw [hres];rfl)
 | s::p,t,hl,ho,hpl=>by
  have hok:aD Tryz.prog 27 (BL p):=by
   intro args objs K h
   unfold BL at h
   split at h
   · obtain ⟨q,rfl,rfl,h1,h2,hk⟩:=h
     exact ⟨_,_,_,.pure _ rfl (Gw p q h1 h2 (by simp only [length_cons] at hpl;omega)),hk⟩
   · exact h.elim
  refine JC.QG (T:=aU Tryz.prog [(63,si),(27,_)]) 1 hD (aj (af Dy (af hok ah))) aY (by decide) (by decide) fun Q hQ=>?_
  obtain ⟨n,r,ps,hv,hm,hp,hfl,hps,hpo,hmn,Hg⟩:=t_ t ho
  have hg0:t[0]?=some n:=by rw [hv];rfl
  have hgs:(s::p)[0]?=some s:=rfl
  have hdr:(s::p).drop 1=p:=rfl
  have hpn:(((s::p).length:Int)=0)=False:=eq_false (by simp only [length_cons];omega)
  have hwl:1≤(s::p).length:=by simp
  have hno:¬ (n.kind=2∧s.part=false)→iF t (s::p)=.bT [.int .i64 0,.bool false]:=fun h=>by
   have:eF (s::p) t=none:=by rw [hv];simp only [eF,gq];rw [if_neg h]
   simp [iF,this]
  generalize hsp:s::p=w at *
  by_cases hk:n.kind=2
  rotate_left 1
  · have hk':=eq_false hk
    have hres:=hno fun h=>hk h.1
    (conv=>arg 4;cbv);simp(maxSteps:=400000)only[↓ax,ay,BEq.rfl,reduceIte,reduceCtorEq,Nat.reduceLT,reduceAdd,reduceSub,reduceMul,Nat.reduceBEq,reduceLeDiff,reduceToNat,reduceLE,hQ,hg0,hpn,hk']
    and_intros <;> first | rfl | decide | exact Nat.le_refl _ | (rw [hres];rfl)
  cases hpt:s.part with
  | true=>
   have hres:=hno fun h=>by rw [hpt] at h;cases h.2
   (conv=>arg 4;cbv);simp(maxSteps:=400000)only[↓ax,ay,BEq.rfl,reduceIte,reduceCtorEq,Nat.reduceLT,reduceAdd,reduceSub,reduceMul,Nat.reduceBEq,reduceLeDiff,reduceToNat,reduceLE,hQ,hg0,hpn,hk,hgs,hpt,Int.reduceEq]
   and_intros <;> first | rfl | decide | exact Nat.le_refl _ | (rw [hres];rfl)
  | false=>
  have hd1:t.drop 1=r:=by rw [hv];rfl
  have hgv:=Dz t n ps ho hl hg0 (by rw [hd1];exact hp) hm
  rw [if_neg (by omega)] at hgv
  (conv=>arg 4;cbv);simp(maxSteps:=400000)only[↓ax,ay,BEq.rfl,reduceIte,reduceCtorEq,Nat.reduceLT,reduceAdd,reduceSub,reduceMul,Nat.reduceBEq,reduceLeDiff,reduceToNat,reduceLE,hQ,hg0,hpn,hk,hgs,hpt,Int.reduceEq,↓si]
  refine R9 93 [.addr (aA t)] (jg 1 ps)
   (fun i O=>(∀ (j:Nat) q,j<i→ps[j]?=some q→Y.nameOf q≠s.name)∧i≤ps.length∧O=Vo t w 0 false++[uO,hole])
   (fun i O=>O=Vo t w (Gv t w) (eF w t).isSome++[uO,hole]) .ret rfl rfl rfl rfl trivial hgv (CQ ps 1) ⟨fun j q h=>absurd h (Nat.not_lt_zero j),Nat.zero_le _,rfl⟩ ?_ ?_ ?_ ?_ ?_
  · rintro i O ⟨_,_,rfl⟩
    exact XQ t w 0 false
  · rintro i O rfl
    exact ⟨XQ t w _ _,OQ t w _ _⟩
  · rintro i args O ⟨hb,hi,rfl⟩ ha
    obtain ⟨q,o,hqi,rfl,h3⟩:=CR t ps 1 i args (by rw [hd1,hfl];simp) ha
    have hil:=(List.getElem?_eq_some_iff.1 hqi).1
    have hqo:=hps q (List.mem_of_getElem? hqi)
    have hat:=OP ps 1 i q hqi
    rw [ha] at hat
    simp only [Option.some.injEq,List.cons.injEq,PV.int.injEq,true_and,and_true] at hat
    have hoo:o=1+(ps.take i).flatten.length:=by omega
    have Vr:o+q.length≤t.length:=by
     have:=congrArg List.length h3
     rw [List.length_take,List.length_drop] at this
     have:=List.length_pos_iff.2 hqo.ne
     omega
    obtain ⟨y,q',hqy⟩:∃ y q',q=y::q':=by
     cases q with
     | nil=>exact absurd rfl hqo.ne
     | cons y q'=>exact ⟨y,q',rfl⟩
    have hgo:t[o]?=some y:=by
     have:=congrArg (fun l=>l[0]?) h3
     simp only [hqy,List.getElem?_cons_zero,length_cons] at this
     rw [List.getElem?_take_of_lt (by omega),List.getElem?_drop,Nat.add_zero] at this
     exact this
    have hny:Y.nameOf q=y.name:=by rw [hqy];rfl
    have zo:(0≤(o:Int))=True:=eq_true (by omega)
    have c1:((o:Int)≤((o+q.length:Nat):Int))=True:=eq_true (by omega)
    have c2:(((o+q.length:Nat):Int)≤(t.length:Int))=True:=eq_true (by omega)
    have hsl:List.drop o (List.take (o+q.length) t)=q:=by rw [List.drop_take,show o+q.length-o=q.length by omega,h3]
    unfold Vo xQ
    by_cases he:y.name=s.name
    · have he':(y.name=s.name)=True:=eq_true he
      have hin:=XP (s:=s) (p:=p) (hpo) hfl hps hk hpt (JF s.name 1 ps i q hqi (by rw [hny,he]) hb)
      rw [← hv,hsp,← hoo] at hin
      cases hlf:eF p q with
      | none=>
       have hr:iF q p=.bT [.int .i64 0,.bool false]:=by simp [iF,hlf]
       rw [hlf] at hin
       simp(maxSteps:=400000)only[↓ax,ay,BEq.rfl,reduceIte,reduceCtorEq,Nat.reduceLT,reduceAdd,reduceSub,reduceMul,Nat.reduceBEq,reduceLeDiff,reduceToNat,reduceLE,hQ,pO,knI,he',zo,c1,c2,hsl,hgo,hgs,hdr,hr,↓BL,bf,Int.toNat_natCast,List.take_length]
       have hN:Gv t w=0:=by simp [Gv,hin]
       have hS:(eF w t).isSome=false:=by rw [hin];rfl
       have e:Vo t w 0 false++[uO,hole]=Vo t w (Gv t w) (eF w t).isSome++[uO,hole]:=by rw [hN,hS]
       exact ⟨by omega,Int.le_refl _,by omega,hqo,rfl,e⟩
      | some j=>
       have hr:iF q p=.bT [.int .i64 j,.bool true]:=by simp [iF,hlf]
       rw [hlf] at hin
       have hjl:j<q.length:=by
        obtain ⟨x,hx,_⟩:=sj hlf
        exact (List.getElem?_eq_some_iff.1 hx).1
       simp(maxSteps:=400000)only[↓ax,ay,BEq.rfl,reduceIte,reduceCtorEq,Nat.reduceLT,reduceAdd,reduceSub,reduceMul,Nat.reduceBEq,reduceLeDiff,reduceToNat,reduceLE,hQ,pO,knI,he',zo,c1,c2,hsl,hgo,hgs,hdr,hr,↓BL,bf,Int.toNat_natCast,List.take_length]
       have hN:Gv t w=(o:Int)+j:=by simp [Gv,hin]
       have hS:(eF w t).isSome=true:=by rw [hin];rfl
       have e:Vo t w ((o:Int)+j) true++[uO,hole]=Vo t w (Gv t w) (eF w t).isSome++[uO,hole]:=by rw [hN,hS]
       exact ⟨by omega,Int.le_refl _,by omega,hqo,⟨by omega,by omega⟩,rfl,e⟩
    · have he':(y.name=s.name)=False:=eq_false he
      simp(maxSteps:=400000)only[↓ax,ay,BEq.rfl,reduceIte,reduceCtorEq,Nat.reduceLT,reduceAdd,reduceSub,reduceMul,Nat.reduceBEq,reduceLeDiff,reduceToNat,reduceLE,hQ,pO,knI,he',zo,hgo,hgs,Int.toNat_natCast]
      refine ⟨fun j q2 hj hq=>?_,by omega,rfl⟩
      rcases Nat.lt_or_ge j i with g | g
      · exact hb j q2 g hq
      · have:j=i:=by omega
        subst this
        rw [hqi] at hq;cases hq;rw [hny];exact he
  · rintro O ⟨hb,hi,rfl⟩
    unfold Vo xQ
    simp(maxSteps:=400000)only[↓ax,ay,BEq.rfl,reduceIte,reduceCtorEq,Nat.reduceLT,reduceAdd,reduceSub,reduceMul,Nat.reduceBEq,reduceLeDiff,reduceToNat,reduceLE,hQ]
    have hres:iF t w=.bT [.int .i64 0,.bool false]:=by
     have:eF w t=none:=by
      rw [hv,← hsp]
      have hf:=OO s.name 1 ps fun j q hq=>hb j q (by rw [r_];exact (List.getElem?_eq_some_iff.1 hq).1) hq
      simp only [eF,gq];rw [hpo,hf];simp
     simp [iF,this]
    and_intros <;> first | rfl | decide | exact Nat.le_refl _ | (rw [hres];rfl)
  · rintro i O hi rfl
    unfold Vo xQ
    simp(maxSteps:=400000)only[↓ax,ay,BEq.rfl,reduceIte,reduceCtorEq,Nat.reduceLT,reduceAdd,reduceSub,reduceMul,Nat.reduceBEq,reduceLeDiff,reduceToNat,reduceLE,hQ]
    exact ⟨_,_,rfl,rfl,rfl,rfl,Nat.le_refl _,rfl,_,_,rfl,rfl,rfl,rfl,Nat.le_refl _,rfl,rfl⟩
def vZ:dN:=fun args objs K=>match args with
 | [a0,a1]=>gu aA a0 (HK.mk:HK fun t=>gu dF a1 (HK.mk:HK fun p=>(t.length≤1000000)∧(Y.One t)∧(p.length≤1000000)∧K (iF t p) objs 0))
 | _=>False
theorem OT:aD Tryz.prog 27 (vZ):=by
 intro args objs K h
 unfold vZ at h
 split at h
 · rename_i a0 a1
   obtain ⟨t,rfl,p,rfl,h1,h2,h3,hk⟩:=h
   exact ⟨_,_,_,.pure _ rfl (Gw p t h1 h2 h3),hk⟩
 · exact h.elim
def kG (s:Stp):Bool:=if s.part then decide (s.name=[]) && decide (0≤s.n) && decide (s.n≤1000000) else decide (s.n=0) && utf s.name
def uh (p:List Stp):Bool:=p.all kG && decide (p.length≤20)
structure Gx (p:List Stp):Prop where
 len:p.length≤4611686018427387904
 txt:∀ s ∈ p,s.name.length≤4611686018427387904
theorem LG (p:List Stp) (hs:Gx p):ai Tryz.prog 8 [dF p] [] (.bool (uh p)) []:=by
 obtain ⟨hl,htx⟩:=hs
 refine zM.bE (T:=aU Tryz.prog [(25,fq)]) 0 hD (aj (af wQ ah)) aY (by decide) fun Q hQ=>?_
 (conv=>arg 4;cbv);simp(maxSteps:=400000)only[↓ax,ay,BEq.rfl,reduceIte,reduceCtorEq,Nat.reduceLT,reduceAdd,reduceSub,reduceMul,Nat.reduceBEq,reduceLeDiff,reduceToNat,reduceLE,hQ]
 refine aH (fun m S=>∃ i:Nat,i+m=p.length∧(p.take i).all kG=true∧S=⟨dU 67 [(0,dF p),(3,.int .i64 i)],[]⟩) p.length ⟨0,by omega,by simp,?_⟩ ?_
 · simp only [dh,keepR,reduceAdd,oC,Nat.reduceBEq,List.map_nil]
   rfl
 rintro m S ⟨i,him,hall,rfl⟩
 rcases Nat.lt_or_ge i p.length with h | h
 · have hlt:((i:Int)<(p.length:Int))=True:=eq_true (by omega)
   have zi:(0≤(i:Int))=True:=eq_true (by omega)
   have hgi:=List.getElem?_eq_getElem h
   have DX:=htx _ (List.getElem_mem h)
   generalize p[i]=s at hgi DX
   have htk:(p.take (i+1)).all kG=kG s:=by rw [List.take_add_one,hgi];simp [hall]
   have hbad:kG s=false→uh p=false:=fun h=>by
    unfold uh
    have:p.all kG=false:=by
     cases hp:p.all kG with
     | false=>rfl
     | true=>rw [List.all_eq_true] at hp;rw [hp s (List.mem_of_getElem? hgi)] at h;cases h
    rw [this];rfl
   have hgo:kG s=true→∃ m',m'<m∧∃ j:Nat,j+m'=p.length∧(p.take j).all kG=true∧(⟨dU 67 [(0,dF p),(3,.int .i64 (i+1:Nat))],[]⟩:St)=⟨dU 67 [(0,dF p),(3,.int .i64 j)],[]⟩:=fun h=>⟨m-1,by omega,i+1,by omega,by rw [htk,h],rfl⟩
   cases hpt:s.part with
   | true=>
    by_cases hn:s.name=[]
    · by_cases h0:s.n<0
      · have hr:=hbad (by simp [kG,hpt,hn];omega)
        have hn':=eq_true hn
        have h0':=eq_true h0
        simp(maxSteps:=400000)only[↓ax,ay,BEq.rfl,reduceIte,reduceCtorEq,Nat.reduceLT,reduceAdd,reduceSub,reduceMul,Nat.reduceBEq,reduceLeDiff,reduceToNat,reduceLE,hQ,hlt,zi,hgi,hpt,hn',h0',hr]
      · by_cases h1:1000000<s.n
        · have hr:=hbad (by simp [kG,hpt,hn];omega)
          have hn':=eq_true hn
          have h0':=eq_false h0
          have h1':=eq_true h1
          simp(maxSteps:=400000)only[↓ax,ay,BEq.rfl,reduceIte,reduceCtorEq,Nat.reduceLT,reduceAdd,reduceSub,reduceMul,Nat.reduceBEq,reduceLeDiff,reduceToNat,reduceLE,hQ,hlt,zi,hgi,hpt,hn',h0',h1',hr]
        · have hr:=hgo (by simp [kG,hpt,hn];omega)
          have hn':=eq_true hn
          have h0':=eq_false h0
          have h1':=eq_false h1
          simp(maxSteps:=400000)only[↓ax,ay,BEq.rfl,reduceIte,reduceCtorEq,Nat.reduceLT,reduceAdd,reduceSub,reduceMul,Nat.reduceBEq,reduceLeDiff,reduceToNat,reduceLE,hQ,hlt,zi,hgi,hpt,hn',h0',h1']
          exact ⟨by omega,hr⟩
    · have hr:=hbad (by simp [kG,hpt,hn])
      have hn':=eq_false hn
      simp(maxSteps:=400000)only[↓ax,ay,BEq.rfl,reduceIte,reduceCtorEq,Nat.reduceLT,reduceAdd,reduceSub,reduceMul,Nat.reduceBEq,reduceLeDiff,reduceToNat,reduceLE,hQ,hlt,zi,hgi,hpt,hn',hr]
   | false=>
    by_cases h0:s.n=0
    · have h0':=eq_true h0
      cases hu:utf s.name with
      | true=>
       have hr:=hgo (by simp [kG,hpt,h0,hu])
       simp(maxSteps:=400000)only[↓ax,ay,BEq.rfl,reduceIte,reduceCtorEq,Nat.reduceLT,reduceAdd,reduceSub,reduceMul,Nat.reduceBEq,reduceLeDiff,reduceToNat,reduceLE,hQ,hlt,zi,hgi,hpt,h0',hu,↓fq]
       exact ⟨by omega,by omega,hr⟩
      | false=>
       have hr:=hbad (by simp [kG,hpt,hu])
       simp(maxSteps:=400000)only[↓ax,ay,BEq.rfl,reduceIte,reduceCtorEq,Nat.reduceLT,reduceAdd,reduceSub,reduceMul,Nat.reduceBEq,reduceLeDiff,reduceToNat,reduceLE,hQ,hlt,zi,hgi,hpt,h0',hu,↓fq,hr]
       omega
    · have h0':=eq_false h0
      have hr:=hbad (by simp [kG,hpt,h0])
      simp(maxSteps:=400000)only[↓ax,ay,BEq.rfl,reduceIte,reduceCtorEq,Nat.reduceLT,reduceAdd,reduceSub,reduceMul,Nat.reduceBEq,reduceLeDiff,reduceToNat,reduceLE,hQ,hlt,zi,hgi,hpt,h0',hr]
 · have hlt:((i:Int)<(p.length:Int))=False:=eq_false (by omega)
   have hr:uh p=decide (p.length≤20):=by
    have:p.take i=p:=List.take_of_length_le h
    rw [this] at hall
    simp [uh,hall]
   have hr2:decide ((p.length:Int)≤20)=uh p:=by
    rw [hr];congr 1;apply propext;constructor <;> omega
   simp(maxSteps:=400000)only[↓ax,ay,BEq.rfl,reduceIte,reduceCtorEq,Nat.reduceLT,reduceAdd,reduceSub,reduceMul,Nat.reduceBEq,reduceLeDiff,reduceToNat,reduceLE,hQ,hlt,hr2]
def jV:dN:=fun args objs K=>match args with
 | [a0]=>gu dF a0 (HK.mk:HK fun p=>(Gx p)∧K (.bool (uh p)) objs 0)
 | _=>False
theorem Iq:aD Tryz.prog 8 (jV):=by
 intro args objs K h
 unfold jV at h
 split at h
 · rename_i a0
   obtain ⟨p,rfl,h1,hk⟩:=h
   exact ⟨_,_,_,.pure _ rfl (LG p h1),hk⟩
 · exact h.elim
end Lp
namespace Lp
open Go Go.Proofs Go.Lib Go.RowKit
open Nat (mul_le_mul_right one_mul succ_mul)
section
variable {P:Program}
def spl (cur:Array Value) (o:Nat) (vs:List Value):Array Value:=(cur.toList.take o++vs++cur.toList.drop (o+vs.length)).toArray
def mid (cur:Array Value) (i n z:Nat):List Value:=(cur.toList.take (n*z)).drop (i*z)
theorem EH {cur:Array Value}{o:Nat}{vs:List Value}(hl:o+vs.length≤cur.size) (q:Nat) :
  (spl cur o vs)[q]?=if q<o then cur[q]? else if q<o+vs.length then vs[q-o]? else cur[q]?:=by
 have hlen:(cur.toList.take o).length=o:=by simp;omega
 simp only [spl,List.getElem?_toArray,List.append_assoc]
 rw [List.getElem?_append,hlen]
 split
 · rename_i h;rw [List.getElem?_take,if_pos h];simp
 · rename_i h
   rw [List.getElem?_append]
   split
   · rename_i h2;rw [if_pos (by omega)]
   · rename_i h2
     rw [if_neg (by omega),List.getElem?_drop,show o+vs.length+(q-o-vs.length)=q by omega];simp
theorem su {cur:Array Value}{o:Nat}{vs:List Value}(hl:o+vs.length≤cur.size):(spl cur o vs).size=cur.size:=by
 simp [spl];omega
theorem nA (w:World) (dT sT ty elem:TypeId) (inf:TypeInfo) (g o dLen dCap:Nat) (a:Addr) (sLen sCap n:Nat) (cur:Array Value) (t:TypeId) (cs:List Value)
  (hu:P.underlying dT=some (.slice elem)) (hi:P.info? elem=some inf) (hg:w.heap[g]?=some (.cells cur t (0,0))) (hn:n=Nat.min sLen dLen) (hl:cs.length=n*inf.size)
  (hsrc:∀ j v,cs[j]?=some v→w.cell? (a.add j)=some v) (hfit:o+cs.length≤cur.size) (h1:∀ v ∈ cs,v.oneCell'=true) :
  (Builtin.copy_ #[dT,sT] ty #[.slice (some ⟨g,o,none⟩) dLen dCap,.slice (some a) sLen sCap]).run P w=
   .ok (goInt n) (w.setRow g (spl cur o cs)):=by
 have h2:=run_loadCells_list (P:=P) w a cs hsrc
 have hst:=run_storeCells_at P g o t cs 0 cur w hg (by simpa using hfit) h1
 rw [hl] at h2
 rw [hn] at h2
 simp only [Nat.min_def] at h2
 simp [Builtin.copy_,run_underlying hu,Builtin.lenOf,Builtin.firstCells,Go.sizeOf,typeInfo,hi,hn,Nat.min_def,h2,hst,spl]
theorem DI {w:World}{g:Nat}{cur:Array Value}{t:TypeId}(hg:w.heap[g]?=some (.cells cur t (0,0))) (o:Nat):w.frozen? ⟨g,o,none⟩=false:=by
 simp [World.frozen?,hg]
theorem XR {α:Type}(xs:List α) (x:α) (i m:Nat) (hi:i≤xs.length):(xs.take i++[x]++xs.drop i)[m]?=if m<i then xs[m]? else if m=i then some x else xs[m-1]?:=by
 have ht:(xs.take i).length=i:=by simp;omega
 rw [List.append_assoc,List.getElem?_append,ht]
 split
 · rename_i h;rw [List.getElem?_take,if_pos h]
 · rename_i h
   rw [List.getElem?_append]
   split
   · rename_i h2
     have:m=i:=by simp at h2;omega
     rw [if_pos this,this];simp
   · rename_i h2
     simp at h2
     rw [if_neg (by omega),List.getElem?_drop]
     congr 1;simp;omega
theorem a_.acG {R:PV→Value→Prop}{z:Nat}{xs:List PV}{c c':Array Value}{x:PV}{s:List Value}{i:Nat}(h:a_ R z c xs) (hs:a_ R z ⟨s⟩ [x]) (hi:i≤xs.length)
  (h1:∀ q,q<i*z→c'[q]?=c[q]?) (h2:∀ q,q<z→c'[i*z+q]?=s[q]?) (h3:∀ q,i*z≤q→q<xs.length*z→c'[q+z]?=c[q]?) :
  a_ R z c' (xs.take i++[x]++xs.drop i):=by
 intro m y hy
 rw [XR xs x i m hi] at hy
 have hlt:∀ {u:PV}{j:Nat}{p:PV},u.cells.length=z→u.cells[j]?=some p→j<z:=fun h1 h2=>by rw [← h1];exact (List.getElem?_eq_some_iff.1 h2).1
 split at hy
 · rename_i hm
   obtain ⟨z1,z2⟩:=h m y hy
   refine ⟨z1,fun j p hp=>?_⟩
   have hj:=hlt z1 hp
   have hmz:(m+1)*z≤i*z:=mul_le_mul_right _ hm
   rw [succ_mul] at hmz
   obtain ⟨v,u1,u2⟩:=z2 j p hp
   exact ⟨v,by rw [h1 _ (by omega)];exact u1,u2⟩
 · split at hy
   · rename_i hm
     cases hy
     obtain ⟨z1,z2⟩:=hs 0 x rfl
     refine ⟨z1,fun j p hp=>?_⟩
     have hj:=hlt z1 hp
     obtain ⟨v,u1,u2⟩:=z2 j p hp
     rw [Nat.zero_mul,Nat.zero_add] at u1
     exact ⟨v,by rw [hm,h2 _ hj];simpa using u1,u2⟩
   · rename_i hm1 hm2
     obtain ⟨z1,z2⟩:=h (m-1) y hy
     have hml:m-1<xs.length:=(List.getElem?_eq_some_iff.1 hy).1
     refine ⟨z1,fun j p hp=>?_⟩
     have hj:=hlt z1 hp
     obtain ⟨v,u1,u2⟩:=z2 j p hp
     have e0:m=(m-1)+1:=by omega
     have e:m*z+j=((m-1)*z+j)+z:=by rw [e0,succ_mul,Nat.add_sub_cancel];omega
     have g1:i*z≤(m-1)*z:=mul_le_mul_right _ (by omega)
     have g2:(m-1+1)*z≤xs.length*z:=mul_le_mul_right _ hml
     rw [succ_mul] at g2
     exact ⟨v,by rw [e,h3 _ (by omega) (by omega)];exact u1,u2⟩
structure abh (P:Program) (f:FuncId) (sT uT ty:TypeId) (z by':Nat):Prop where
 ent:Enters P f
 shift:∀ (g n c i vb voff vc:Nat) (cur Gy:Array Value) (tv:TypeId) (ss:List Value) (w:World),i<n→n+1≤c→c≤9223372036854775807→
  w.heap[g]?=some (.cells cur ty (0,0))→cur.size=c*z→w.heap[vb]?=some (.cells Gy tv (0,0))→vb≠g→ss.length=z→
  (∀ j v,ss[j]?=some v→w.cell? ⟨vb,voff+j,none⟩=some v)→(∀ v ∈ ss,v.oneCell'=true)→(∀ v ∈ mid cur i n z,v.oneCell'=true)→
  Calls P f #[.slice (some ⟨g,0,none⟩) n c,.int .i64 i,.slice (some ⟨vb,voff,none⟩) 1 vc] w fun e w'=>
   e=.returned (.slice (some ⟨g,0,none⟩) (n+1) c)∧w'=(w.drew.setRow g (spl cur ((i+1)*z) (mid cur i n z))).setRow g (spl (spl cur ((i+1)*z) (mid cur i n z)) (i*z) ss)
 fin:∀ (base:Option Addr) (n c vb voff vc:Nat) (w w':World) (v':Value),(base=none→n=0∧c=0)→n≤c→c≤9223372036854775807→
  (∀ ty',(Builtin.append_ #[sT,uT] ty' #[.slice base n c,.slice (some ⟨vb,voff,none⟩) 1 vc]).run P w=.ok v' w')→
  Calls P f #[.slice base n c,.int .i64 n,.slice (some ⟨vb,voff,none⟩) 1 vc] w fun e w1=>e=.returned v'∧w1=w'
 grow:∀ (g n c i vb voff vc:Nat) (cur:Array Value) (ss:List Value) (w:World),i<n→n≤c→c<n+1→(n+1)*by'≤140737488355328→
  w.heap[g]?=some (.cells cur ty (0,0))→cur.size=c*z→vb<w.heap.size→ss.length=z→
  (∀ j v,ss[j]?=some v→w.cell? ⟨vb,voff+j,none⟩=some v)→(∀ v ∈ ss,v.oneCell'=true)→(∀ v ∈ mid cur i n z,v.oneCell'=true)→
  ∃ row:Array Value,row.size=grownCap w (n+1) c ty*z∧(∀ q,q<i*z→row[q]?=cur[q]?)∧
   Calls P f #[.slice (some ⟨g,0,none⟩) n c,.int .i64 i,.slice (some ⟨vb,voff,none⟩) 1 vc] w fun e w'=>
    e=.returned (.slice (some ⟨w.heap.size,0,none⟩) (n+1) (grownCap w (n+1) c ty))∧
    w'=((((w.drew.alloc (.cells row ty)).setRow w.heap.size (spl row (i*z) ss)).drew).setRow w.heap.size (spl (spl row (i*z) ss) ((i+1)*z) (mid cur i n z)))
variable {base ak:Nat→Prop}{w0:Wz}{blk:Nat→Option Nat}{a:Act}{w:World}
structure OU (ty:TypeId) (z:Nat) (R:PV→Value→Prop) (old:Option Nat) (w:World) (ys:List PV) (v':Value) (w':World) (gb:Nat):Prop where
 size:w.heap.size≤w'.heap.size
 sm:Sm w w'
 kept:∀ b y,old≠some b→w.heap[b]?=some y→w'.heap[b]?=some y
 at':old=some gb∨w.heap.size≤gb
 cells:∃ cap c,v'=.slice (some ⟨gb,0,none⟩) ys.length cap∧w'.heap[gb]?=some (.cells c ty (0,0))∧ys.length≤cap∧cap≤maxLen∧c.size=cap*z∧a_ R z c ys
theorem OU.rel {tmps:List PV}{objs:List Obj}{k ver:Nat}{ob:Obj}{ys:List PV}{v':Value}{w':World}{gb:Nat}(R:Rel base ak w0 ⟨tmps,objs⟩ blk a w) (h1:objs[k]?=some ob) (h2:ob.live=true) (h3:ob.ver=ver)
  (hM:ob.ty≠MT) (L:OU ob.ty ob.sz (bC w (bR base objs blk) objs blk) (blk k) w ys v' w' gb) :
  Rel base ak w0 ⟨tmps,objs.set k { ob with xs:=ys,ver:=ver+1 }⟩ (aC blk k (some gb)) a w'∧
  aP w' (bR base (objs.set k { ob with xs:=ys,ver:=ver+1 }) (aC blk k (some gb))) (objs.set k { ob with xs:=ys,ver:=ver+1 }) (aC blk k (some gb)) (.bO k (ver+1)) v':=by
 obtain ⟨cap,c,hv,z1,z2,z3,z4,z5⟩:=L.cells
 have hb:aC blk k (some gb) k=some gb:=by unfold aC;rw [if_pos rfl]
 constructor
 · refine R.setObj L.sm (o':={ ob with xs:=ys,ver:=ver+1 }) h1 h2 h2 L.size L.kept (fun g hg=>by cases hg;exact L.at') (by simp;omega) (fun hv=>by simp at hv;omega) (fun hr=>?_)
   refine IY (gb:=some gb) (R:=bC w (bR base objs blk) objs blk) hb ?_ hM hr
   exact ⟨cap,c,z1,z2,z4,z5⟩
 · refine ⟨by rw [hv];rfl,{ ob with xs:=ys,ver:=ver+1 },?_,Nat.le_refl _,fun _ _=>⟨hM,?_⟩⟩
   · rw [List.getElem?_set];simp [(List.getElem?_eq_some_iff.1 h1).1]
   · unfold xA
     rw [hb]
     exact ⟨cap,c,hv,z1,z2,z3,z4⟩
theorem abj {R:PV→Value→Prop}{p q r:PV}{vs:List Value}(h:cu R [p,q,r] vs):∃ u v x,vs=[u,v,x]∧R p u∧R q v∧R r x:=by
 obtain ⟨hl,h⟩:=h
 match vs,hl with
 | [u,v,x],_=>exact ⟨u,v,x,rfl,h 0 _ _ rfl rfl,h 1 _ _ rfl rfl,h 2 _ _ rfl rfl⟩
theorem EI {α:Type}(x:Option α):x=none∨∃ g,x=some g:=by cases x with
 | none=>exact .inl rfl
 | some g=>exact .inr ⟨g,rfl⟩
def XT (z:Nat) (x:PV):Prop:=x.cells.length=z∧x.cells.all PV.storable=true
theorem Vd {f:FuncId}{sT uT:TypeId}{ti:aB}{by':Nat}{objs:List Obj}{k ver:Nat}{ob:Obj}{x:PV}{k2 OV:Nat}{SG:Obj}{i:Nat}{tmps:List PV}(W:abh P f sT uT ob.ty ob.sz by') (hu:P.underlying sT=some (.slice ob.ty)) (hu2:P.underlying uT=some (.slice ob.ty)) (hD:iR P ob.ty ti) (hk:ti.kind≠.none)
  (hzl:(aF ti).cells.length=ti.size) (hzs:(aF ti).cells.all PV.storable=true) (hsz:ti.size=ob.sz) (hby:ti.bytes=by')
  (R:Rel base ak w0 ⟨tmps,objs⟩ blk a w) (h1:objs[k]?=some ob) (h2:ob.live=true) (h3:ob.ver=ver)
  (g1:objs[k2]?=some SG) (g2:SG.live=true) (g3:SG.ver=OV) (g4:SG.sz=ob.sz) (g5:SG.xs=[x]) (hkk:k2≠k)
  (hall:∀ y ∈ ob.xs,XT ob.sz y) (hx:XT ob.sz x) (hi:i≤ob.xs.length) (hb:(ob.xs.length+1)*by'≤140737488355328) (hbm:ob.xs.length+1≤1000000000){v0 v2:Value}
  (r0:aP w (bR base objs blk) objs blk (.bO k ver) v0) (r2:aP w (bR base objs blk) objs blk (.bO k2 OV) v2) :
  Calls P f #[v0,.int .i64 i,v2] w fun e w'=>∃ v' gb,e=.returned v'∧OU ob.ty ob.sz (bC w (bR base objs blk) objs blk) (blk k) w (ob.xs.take i++[x]++ob.xs.drop i) v' w' gb:=by
 have hty:=r0.sM h1 h2 h3
 have adA:=r2.sM g1 g2 g3
 have hh:=r0.bO h1 h2 h3
 have hone:∀ y,XT ob.sz y→∀ p ∈ y.cells,∀ v,bC w (bR base objs blk) objs blk p v→v.oneCell'=true:=fun y hy p hp v hv=>(lQ hv (List.all_eq_true.1 hy.2 p hp)).1
 obtain ⟨vb,vc,Gy,rfl,hgv,hbk2,hvs,hvc,hcs⟩:∃ vb vc Gy,v2=.slice (some ⟨vb,0,none⟩) 1 vc∧w.heap[vb]?=some (.cells Gy SG.ty (0,0))∧blk k2=some vb∧Gy.size=vc*ob.sz∧1≤vc∧a_ (bC w (bR base objs blk) objs blk) ob.sz Gy [x]:=by
  have hr:=r2.bO g1 g2 g3
  unfold xA at hr
  rcases EI (blk k2) with hbk | ⟨g,hbk⟩
  · rw [hbk] at hr;rw [g5] at hr;exact absurd hr.2 (by simp)
  · rw [hbk] at hr
    obtain ⟨cap,c,rfl,x1,x2,x3,x4⟩:=hr
    obtain ⟨c',y1,y2,y3⟩:=kX R g1 g2 hbk adA
    rw [x1] at y1;cases y1
    rw [g4] at x4 y3
    rw [g5] at y3 x2 ⊢
    exact ⟨g,cap,c,rfl,x1,hbk,x4,x2,y3⟩
 have adB:vb<w.heap.size:=(Array.getElem?_eq_some_iff.1 hgv).1
 obtain ⟨ss,hss⟩:∃ ss,ss=Gy.toList.take ob.sz:=⟨_,rfl⟩
 have Ve:ss.length=ob.sz:=by
  rw [hss,List.length_take,Array.length_toList,hvs]
  have:=mul_le_mul_right ob.sz hvc
  rw [one_mul] at this
  omega
 have hcell:∀ j v,ss[j]?=some v→w.cell? ⟨vb,0+j,none⟩=some v:=fun j v hj=>by
  rw [hss,List.getElem?_take] at hj
  split at hj
  · simp only [World.cell?,hgv,Nat.zero_add]
    simpa using hj
  · cases hj
 have hcx:a_ (bC w (bR base objs blk) objs blk) ob.sz ⟨ss⟩ [x]:=by
  have:=a_.take hcs
  rw [show [x].length*ob.sz=ob.sz from one_mul _,← hss] at this
  exact this
 have hso:∀ v ∈ ss,v.oneCell'=true:=cells_one hcx (by rw [Ve];exact (one_mul _).symm) (fun y hy=>hone y (by rw [List.mem_singleton.1 hy];exact hx))
 by_cases hin:i=ob.xs.length
 · subst hin
   have hfin:ob.xs.take ob.xs.length++[x]++ob.xs.drop ob.xs.length=ob.xs++[x]:=by simp
   rw [hfin]
   obtain ⟨v',w',gb,q1,q2,q3,q4,q5⟩:=uU (ty:=sT) (R:=bC w (bR base objs blk) objs blk) (gOld:=blk k) (v:=v0) (x:=.slice (some ⟨vb,0,none⟩) 1 vc) (xs:=ob.xs) (ys:=[x]) (news:=ss) hu hD hk hzl hzs (by
    unfold xA at hh
    rcases EI (blk k) with hbk | ⟨g,hbk⟩
    · rw [hbk] at hh ⊢;exact hh
    · rw [hbk] at hh ⊢
      obtain ⟨cap,c,hv,x1,x2,x3,x4⟩:=hh
      obtain ⟨c',y1,y2,y3⟩:=kX R h1 h2 hbk hty
      rw [x1] at y1;cases y1
      exact ⟨cap,c,hv,x1,x2,x3,by rw [hsz];exact x4,by rw [hsz];exact y3⟩) (by rw [hsz];exact Src.ofSlice w hu2 ⟨vb,0,none⟩ 1 vc ss (by rw [Ve];exact (one_mul _).symm) (fun j u hj=>by rw [Addr.add_lit];exact hcell j u hj) hso) (by rw [hsz];exact hcx) (by rw [hby];exact hb) (by simp;omega)
   have hnn:ob.xs++[x]≠[]:=by simp
   have hL:∃ gb,OU ob.ty ob.sz (bC w (bR base objs blk) objs blk) (blk k) w (ob.xs++[x]) v' w' gb:=by
    cases gb with
    | none=>exact absurd q5.2 hnn
    | some g=>exact ⟨g,q2.1,q2.2,q3,q4 g rfl,by rw [hsz] at q5;exact q5⟩
   obtain ⟨gb',hL⟩:=hL
   have fin:∀ base' n c,v0=.slice base' n c→n=ob.xs.length→(base'=none→n=0∧c=0)→n≤c→c≤9223372036854775807→
       Calls P f #[v0,.int .i64 ob.xs.length,.slice (some ⟨vb,0,none⟩) 1 vc] w fun e w'=>∃ v' gb,e=.returned v'∧OU ob.ty ob.sz (bC w (bR base objs blk) objs blk) (blk k) w (ob.xs++[x]) v' w' gb:=by
    intro base' n c ev en hn hnc hc
    subst ev;subst en
    refine (W.fin base' _ c vb 0 vc w w' v' hn hnc hc fun ty'=>q1).mono fun e w1 ⟨e1,e2⟩=>?_
    subst e2
    exact ⟨v',gb',e1,hL⟩
   unfold xA at hh
   rcases EI (blk k) with hbk | ⟨g,hbk⟩
   · rw [hbk] at hh;exact fin none 0 0 hh.1 (by rw [hh.2];rfl) (fun _=>⟨rfl,rfl⟩) (Nat.le_refl _) (by decide)
   · rw [hbk] at hh
     obtain ⟨cap,c,hv,x1,x2,x3,x4⟩:=hh
     exact fin _ _ _ hv rfl (fun h=>by cases h) x2 (by unfold maxLen at x3;omega)
 · have hlt:i<ob.xs.length:=by omega
   unfold xA at hh
   rcases EI (blk k) with hbk | ⟨g,hbk⟩
   · rw [hbk] at hh;rw [hh.2] at hlt;simp at hlt
   · rw [hbk] at hh
     obtain ⟨cap,c,rfl,x1,x2,x3,x4⟩:=hh
     obtain ⟨c',y1,y2,y3⟩:=kX R h1 h2 hbk hty
     rw [x1] at y1;cases y1
     have hc63:cap≤9223372036854775807:=by unfold maxLen at x3;omega
     have hvg:vb≠g:=fun e=>R.objs.GJ k2 k SG ob vb hkk g1 g2 h1 h2 hbk2 (by rw [hbk,e])
     have m1:(i+1)*ob.sz≤ob.xs.length*ob.sz:=mul_le_mul_right _ hlt
     have m2:ob.xs.length*ob.sz≤cap*ob.sz:=mul_le_mul_right _ x2
     have e1:=succ_mul i ob.sz
     have e2:=succ_mul ob.xs.length ob.sz
     rw [e1] at m1
     have hml:(mid c i ob.xs.length ob.sz).length=ob.xs.length*ob.sz-i*ob.sz:=by
      unfold mid
      rw [List.length_drop,List.length_take,Array.length_toList,x4]
      omega
     have hoc:∀ v ∈ c.toList.take (ob.xs.length*ob.sz),v.oneCell'=true:=by
      refine cells_one (a_.take y3) ?_ (fun y hy=>hone y (hall y hy))
      rw [List.length_take,Array.length_toList,x4]
      omega
     have acH:∀ v ∈ mid c i ob.xs.length ob.sz,v.oneCell'=true:=fun v hv=>hoc v (List.mem_of_mem_drop hv)
     have hdg:∀ q,i*ob.sz≤q→q<ob.xs.length*ob.sz→(mid c i ob.xs.length ob.sz)[q-i*ob.sz]?=c[q]?:=fun q hq1 hq2=>by
      unfold mid
      rw [List.getElem?_drop,List.getElem?_take,show i*ob.sz+(q-i*ob.sz)=q by omega,if_pos hq2];simp
     have hyl:(ob.xs.take i++[x]++ob.xs.drop i).length=ob.xs.length+1:=by simp;omega
     have hmax:ob.xs.length+1≤maxLen:=by unfold maxLen;omega
     by_cases hroom:ob.xs.length+1≤cap
     · have m3:(ob.xs.length+1)*ob.sz≤cap*ob.sz:=mul_le_mul_right _ hroom
       rw [e2] at m3
       refine (W.shift g ob.xs.length cap i vb 0 vc c Gy SG.ty ss w hlt hroom hc63 x1 x4 hgv hvg Ve hcell hso acH).mono fun e w' ⟨he,hw⟩=>?_
       refine ⟨_,g,he,?_⟩
       rw [e1] at hw
       have hf1:i*ob.sz+ob.sz+(mid c i ob.xs.length ob.sz).length≤c.size:=by rw [hml,x4];omega
       generalize OW:spl c (i*ob.sz+ob.sz) (mid c i ob.xs.length ob.sz)=iN at hw
       have hs1:iN.size=c.size:=by rw [← OW];exact su hf1
       have hg1:=fun q=>OW ▸ EH hf1 q
       have hf2:i*ob.sz+ss.length≤iN.size:=by rw [hs1,x4,Ve];omega
       generalize OX:spl iN (i*ob.sz) ss=cur2 at hw
       have hs2:cur2.size=iN.size:=by rw [← OX];exact su hf2
       have hg2:=fun q=>OX ▸ EH hf2 q
       subst hw
       have hgd:w.drew.heap[g]?=some (.cells c ob.ty (0,0)):=x1
       have hh1:(w.drew.setRow g iN).heap[g]?=some (.cells iN ob.ty (0,0)):=setRow_heap w.drew g c iN ob.ty (0,0) hgd
       refine ⟨by rw [setRow_size,setRow_size];exact Nat.le_refl _,⟨rfl,rfl⟩,fun b y hb hy=>?_,.inl hbk,cap,cur2,by rw [hyl],setRow_heap _ g iN cur2 ob.ty (0,0) hh1,by rw [hyl];exact hroom,x3,by rw [hs2,hs1,x4],?_⟩
       · have hbg:b≠g:=fun e=>hb (by rw [hbk,e])
         rw [setRow_other _ g b _ hbg,setRow_other _ g b _ hbg];exact hy
       · refine a_.acG y3 hcx hi (fun q hq=>?_) (fun q hq=>?_) (fun q hq1 hq2=>?_)
         · rw [hg2,if_pos hq,hg1,if_pos (by omega)]
         · rw [hg2,if_neg (by omega),if_pos (by omega),Nat.add_sub_cancel_left]
         · rw [hg2,if_neg (by omega),if_neg (by omega),hg1,if_neg (by omega),if_pos (by omega)]
           rw [← hdg q hq1 hq2];congr 1;omega
     · obtain ⟨row,hrs,hrg,hC⟩:=W.grow g ob.xs.length cap i vb 0 vc c ss w hlt x2 (by omega) hb x1 x4 adB Ve hcell hso acH
       refine hC.mono fun e w' ⟨he,hw⟩=>?_
       refine ⟨_,w.heap.size,he,?_⟩
       have hGn:=grownCap_ge w (ob.xs.length+1) cap ob.ty
       have hGm:=grownCap_le_maxLen w (ob.xs.length+1) cap ob.ty hmax
       generalize grownCap w (ob.xs.length+1) cap ob.ty=G at hrs hGn hGm ⊢
       have m3:(ob.xs.length+1)*ob.sz≤G*ob.sz:=mul_le_mul_right _ hGn
       rw [e2] at m3
       rw [e1] at hw
       have hf1:i*ob.sz+ss.length≤row.size:=by rw [hrs,Ve];omega
       generalize OW:spl row (i*ob.sz) ss=iN at hw
       have hs1:iN.size=row.size:=by rw [← OW];exact su hf1
       have hg1:=fun q=>OW ▸ EH hf1 q
       have hf2:i*ob.sz+ob.sz+(mid c i ob.xs.length ob.sz).length≤iN.size:=by rw [hml,hs1,hrs];omega
       generalize OX:spl iN (i*ob.sz+ob.sz) (mid c i ob.xs.length ob.sz)=cur2 at hw
       have hs2:cur2.size=iN.size:=by rw [← OX];exact su hf2
       have hg2:=fun q=>OX ▸ EH hf2 q
       subst hw
       have hN:(w.drew.alloc (.cells row ob.ty)).heap[w.heap.size]?=some (.cells row ob.ty (0,0)):=heap_alloc_new w.drew _
       have hN1:(((w.drew.alloc (.cells row ob.ty)).setRow w.heap.size iN).drew).heap[w.heap.size]?=some (.cells iN ob.ty (0,0)):=setRow_heap _ w.heap.size row iN ob.ty (0,0) hN
       have hgr:j4 w (w.drew.alloc (.cells row ob.ty)):=.push rfl
       refine ⟨by rw [setRow_size];show w.heap.size≤((w.drew.alloc (.cells row ob.ty)).setRow w.heap.size iN).heap.size;rw [setRow_size];exact hgr.1,hgr.2.2,fun b y hb hy=>?_,.inr (Nat.le_refl _),G,cur2,by rw [hyl],setRow_heap _ w.heap.size iN cur2 ob.ty (0,0) hN1,by rw [hyl];exact hGn,hGm,by rw [hs2,hs1,hrs],?_⟩
       · have hbs:b≠w.heap.size:=by have:=(Array.getElem?_eq_some_iff.1 hy).1;omega
         rw [setRow_other _ w.heap.size b _ hbs]
         show ((w.drew.alloc (.cells row ob.ty)).setRow w.heap.size iN).heap[b]?=some y
         rw [setRow_other _ w.heap.size b _ hbs]
         exact hgr.2.1 b y hy
       · refine a_.acG y3 hcx hi (fun q hq=>?_) (fun q hq=>?_) (fun q hq1 hq2=>?_)
         · rw [hg2,if_pos (by omega),hg1,if_pos hq,hrg q hq]
         · rw [hg2,if_pos (by omega),hg1,if_neg (by omega),if_pos (by omega),Nat.add_sub_cancel_left]
         · rw [hg2,if_neg (by omega),if_pos (by omega),← hdg q hq1 hq2]
           congr 1;omega
theorem XU {f:FuncId}{sT uT:TypeId}{ti:aB}{by':Nat}{objs:List Obj}{k ver:Nat}{ob:Obj}{x:PV}{k2 OV:Nat}{SG:Obj}{i:Nat}(W:abh P f sT uT ob.ty ob.sz by') (hu:P.underlying sT=some (.slice ob.ty)) (hu2:P.underlying uT=some (.slice ob.ty)) (hD:iR P ob.ty ti) (hk:ti.kind≠.none)
  (hzl:(aF ti).cells.length=ti.size) (hzs:(aF ti).cells.all PV.storable=true) (hsz:ti.size=ob.sz) (hby:ti.bytes=by')
  (h1:objs[k]?=some ob) (h2:ob.live=true) (h3:ob.ver=ver)
  (g1:objs[k2]?=some SG) (g2:SG.live=true) (g3:SG.ver=OV) (g4:SG.sz=ob.sz) (g5:SG.xs=[x]) (hkk:k2≠k)
  (hall:∀ y ∈ ob.xs,XT ob.sz y) (hx:XT ob.sz x) (hi:i≤ob.xs.length) (hb:(ob.xs.length+1)*by'≤140737488355328) (hbm:ob.xs.length+1≤1000000000) :
  RH P f [.bO k ver,.int .i64 i,.bO k2 OV] objs (.bO k (ver+1)) (objs.set k { ob with xs:=ob.xs.take i++[x]++ob.xs.drop i,ver:=ver+1 }):=by
 refine ⟨W.ent,by simp,fun base ak w0 tmps blk a w vs R hargs=>?_⟩
 obtain ⟨v0,v1,v2,rfl,r0,r1,r2⟩:=abj hargs
 have e1:=r1.int
 subst e1
 refine (Vd W hu hu2 hD hk hzl hzs hsz hby R h1 h2 h3 g1 g2 g3 g4 g5 hkk hall hx hi hb hbm r0 r2).mono fun e w' ⟨v',gb,he,L⟩=>?_
 obtain ⟨e3,e4⟩:=L.rel R h1 h2 h3 (r0.sM h1 h2 h3)
 exact ⟨v',_,he,e3,e4⟩
end
end Lp
namespace Lp
open Go Go.Proofs Go.Lib Go.RowKit
theorem Vf:Tryz.prog.underlying 23=some (.slice 51):=by kernel_rfl
theorem aap:Tryz.prog.underlying 22=some (.slice 51):=by kernel_rfl
theorem acI:∃ inf,Tryz.prog.info? 51=some inf∧inf.zero=some (Value.agg ⟨[.int .i64 0,.int .i64 0,.string ⟨⟨[]⟩⟩,.string ⟨⟨[]⟩⟩,.int .i64 0,.int .i64 0,.int .i64 0,.string ⟨⟨[]⟩⟩,.string ⟨⟨[]⟩⟩,.bool false,.int .i64 0]⟩)∧inf.size=11∧inf.bytes=120:=⟨_,rfl,rfl,rfl,rfl⟩
theorem abk (g n c i vb voff vc:Nat) (cur Gy:Array Value) (tv:TypeId) (ss:List Value) (w:World) (hi:i<n) (hroom:n+1≤c) (hc63:c≤9223372036854775807)
  (hg:w.heap[g]?=some (.cells cur 51 (0,0))) (hcur:cur.size=c*11) (hgv:w.heap[vb]?=some (.cells Gy tv (0,0))) (hvb:vb≠g) (hsl:ss.length=11)
  (hx:∀ j v,ss[j]?=some v→w.cell? ⟨vb,voff+j,none⟩=some v) (os:∀ v ∈ ss,v.oneCell'=true) (oc:∀ v ∈ mid cur i n 11,v.oneCell'=true) :
  Calls Tryz.prog 29 #[.slice (some ⟨g,0,none⟩) n c,.int .i64 i,.slice (some ⟨vb,voff,none⟩) 1 vc] w fun e w'=>
   e=.returned (.slice (some ⟨g,0,none⟩) (n+1) c)∧w'=(w.drew.setRow g (spl cur ((i+1)*11) (mid cur i n 11))).setRow g (spl (spl cur ((i+1)*11) (mid cur i n 11)) (i*11) ss):=by
 have mixed:Tryz.prog.follows .mixedOrders=true:=by kernel_rfl
 have hml:(mid cur i n 11).length=(n-i)*11:=by simp [mid,hcur];omega
 have hz2:¬ ((i:Int)=(n:Int)):=by omega
 have hov:∀ off lb cb,(callFunc 64 #[.slice (some ⟨vb,voff,none⟩) 1 vc,.slice (some ⟨g,off,none⟩) lb cb]).run Tryz.prog w=.ok (.value (.bool false)) w:=fun off lb cb=>by
  rw [run_callFunc_extern Tryz.func64 (by kernel_rfl) (by kernel_rfl) (by kernel_rfl) (e:=Extern.SlicesOverlaps.overlaps #[22,22] #[4]) (by kernel_rfl),
   Lib.run_overlaps_apart w 22 4 51 aap 11 Tryz.sizeOf51 ⟨vb,voff,none⟩ ⟨g,off,none⟩ 1 vc lb cb hvb tv 51 Gy.size cur.size (by simp [World.shape?,hgv]) (by simp [World.shape?,hg]) (by omega) (DI hgv _) (DI hgv _)]
  rfl
 obtain ⟨inf,hi0,hz0,hzs,hzb⟩:=acI
 have hg':w.drew.heap[g]?=some (.cells cur 51 (0,0)):=hg
 have hcp1:∀ ty dc sc,(Builtin.copy_ #[23,23] ty #[.slice (some ⟨g,(i+1)*11,none⟩) (n-i) dc,.slice (some ⟨g,i*11,none⟩) (n+1-i) sc]).run Tryz.prog w.drew=.ok (goInt (n-i:Nat)) (w.drew.setRow g (spl cur ((i+1)*11) (mid cur i n 11))):=fun ty dc sc=>by
  refine nA w.drew 23 23 ty 51 inf g ((i+1)*11) (n-i) dc ⟨g,i*11,none⟩ (n+1-i) sc (n-i) cur 51 _ Vf hi0 hg' (by simp only [Nat.min_def];split <;> omega) (by rw [hzs];omega) (fun j v hj=>?_) (by omega) oc
  rw [Addr.add_lit]
  simp only [World.cell?,hg']
  unfold mid at hj
  rw [List.getElem?_drop,List.getElem?_take] at hj
  split at hj
  · simpa using hj
  · cases hj
 have XV:(spl cur ((i+1)*11) (mid cur i n 11)).size=c*11:=by rw [su (by omega)];omega
 generalize spl cur ((i+1)*11) (mid cur i n 11)=iN at hcp1 XV ⊢
 have hg1:(w.drew.setRow g iN).heap[g]?=some (.cells iN 51 (0,0)):=setRow_heap w.drew g cur iN 51 (0,0) hg'
 have hcp2:∀ ty dc,(Builtin.copy_ #[23,22] ty #[.slice (some ⟨g,i*11,none⟩) (n+1-i) dc,.slice (some ⟨vb,voff,none⟩) 1 vc]).run Tryz.prog (w.drew.setRow g iN)=.ok (goInt (1:Nat)) ((w.drew.setRow g iN).setRow g (spl iN (i*11) ss)):=fun ty dc=>by
  refine nA _ 23 22 ty 51 inf g (i*11) (n+1-i) dc ⟨vb,voff,none⟩ 1 vc 1 iN 51 ss Vf hi0 hg1 (by simp only [Nat.min_def];split <;> omega) (by rw [hzs];omega) (fun j v hj=>?_) (by omega) os
  rw [Addr.add_lit]
  have e:(w.drew.setRow g iN).heap[vb]?=w.heap[vb]?:=setRow_other w.drew g vb iN hvb
  have:(w.drew.setRow g iN).cell? ⟨vb,voff+j,none⟩=w.cell? ⟨vb,voff+j,none⟩:=by simp only [World.cell?,e]
  rw [this]
  exact hx j v hj
 generalize spl iN (i*11) ss=cur2 at hcp2 ⊢
 have hw1:IntKind.i64.wrap ((i:Int)+1)=(i:Int)+1:=by rw [IntKind.wrap_i64];omega
 have hb1:(0:Int)≤(i:Int)+1:=by omega
 have hin:i≤n:=by omega
 have htn:((i:Int)+1).toNat=i+1:=by omega
 have hb2:¬ (c=i+1):=by omega
 have hb3:(i:Int)≤(n:Int)+1:=by omega
 have hb4:¬ (c=i):=by omega
 have hb5:n+1-(i+1)=n-i:=by omega
 clear hml XV hsl
 go_enter Tryz.func29,Tryz.ntmps29
 go_wp2_with (simp only [hov])
 go_region_law_o (refine step_copy_runI rfl _ _ 23 23 rfl _ _ (by simp [Act.eval,Act.put]) (by simp [Act.eval,Act.put]) (hcp1 _ _ _) ?_)
 go_wp2_with (at_builtin;refine wpList_copy_runI _ rfl _ _ 23 22 rfl _ _ rfl rfl (hcp2 _ _) ?_)
 go_ret
 exact ⟨rfl,rfl⟩
theorem adC (base:Option Addr) (n c vb voff vc:Nat) (w w':World) (v':Value) (hnil:base=none→n=0∧c=0) (hnc:n≤c) (hc63:c≤9223372036854775807)
  (hrun:∀ ty,(Builtin.append_ #[23,22] ty #[.slice base n c,.slice (some ⟨vb,voff,none⟩) 1 vc]).run Tryz.prog w=.ok v' w') :
  Calls Tryz.prog 29 #[.slice base n c,.int .i64 n,.slice (some ⟨vb,voff,none⟩) 1 vc] w fun e w1=>e=.returned v'∧w1=w':=by
 have mixed:Tryz.prog.follows .mixedOrders=true:=by kernel_rfl
 cases base with
 | none=>
  obtain ⟨rfl,rfl⟩:=hnil rfl
  go_enter Tryz.func29,Tryz.ntmps29
  go_wp2_with (at_builtin;refine Lib.wpList_append_run _ rfl _ _ _ _ rfl _ _ rfl rfl _ _ (hrun _) ?_)
  go_ret
  exact ⟨rfl,rfl⟩
 | some a=>
  obtain ⟨ab,ao,asp⟩:=a
  clear hnil
  go_enter Tryz.func29,Tryz.ntmps29
  go_wp2_with (at_builtin;refine Lib.wpList_append_run _ rfl _ _ _ _ rfl _ _ rfl rfl _ _ (hrun _) ?_)
  all_goals (go_ret;exact ⟨rfl,rfl⟩)
theorem acJ (g n c i vb voff vc:Nat) (cur:Array Value) (ss:List Value) (w:World) (hi:i<n) (hnc:n≤c) (hroom:c<n+1) (hbig:(n+1)*120≤140737488355328)
  (hg:w.heap[g]?=some (.cells cur 51 (0,0))) (hcur:cur.size=c*11) (hvb:vb<w.heap.size) (hsl:ss.length=11)
  (hx:∀ j v,ss[j]?=some v→w.cell? ⟨vb,voff+j,none⟩=some v) (os:∀ v ∈ ss,v.oneCell'=true) (oc:∀ v ∈ mid cur i n 11,v.oneCell'=true) :
  ∃ row:Array Value,row.size=grownCap w (n+1) c 51*11∧(∀ q,q<i*11→row[q]?=cur[q]?)∧
   Calls Tryz.prog 29 #[.slice (some ⟨g,0,none⟩) n c,.int .i64 i,.slice (some ⟨vb,voff,none⟩) 1 vc] w fun e w'=>
    e=.returned (.slice (some ⟨w.heap.size,0,none⟩) (n+1) (grownCap w (n+1) c 51))∧
    w'=((((w.drew.alloc (.cells row 51)).setRow w.heap.size (spl row (i*11) ss)).drew).setRow w.heap.size (spl (spl row (i*11) ss) ((i+1)*11) (mid cur i n 11))):=by
 have mixed:Tryz.prog.follows .mixedOrders=true:=by kernel_rfl
 obtain ⟨inf,hi0,hz0,hzs,hzb⟩:=acI
 have hgw:g<w.heap.size:=(Array.getElem?_eq_some_iff.1 hg).1
 have hz2:¬ ((i:Int)=(n:Int)):=by omega
 have hz3:(c:Int)<(n:Int)+1:=by omega
 have hik:i+(n+1-i)=n+1:=by omega
 have hkk:(n:Int)+1-(i:Int)=((n+1-i:Nat):Int):=by omega
 have hold:(Builtin.firstCells inf.size i (.slice (some ⟨g,0,none⟩) i c)).run Tryz.prog w.drew=.ok (cur.toList.take (i*11)).toArray w.drew:=by
  rw [hzs]
  refine run_firstCells_some w.drew 11 i ⟨g,0,none⟩ i c (cur.toList.take (i*11)) (by rw [List.length_take,Array.length_toList,hcur];omega) (fun j v hj=>?_)
  rw [List.getElem?_take] at hj
  split at hj
  · rw [add_lit]
    have:(w.drew.heap)[g]?=some (.cells cur 51 (0,0)):=hg
    simp only [World.cell?,this]
    simpa using hj
  · cases hj
 have hGn:n+1≤grownCap w (n+1) c 51:=grownCap_ge w _ _ _
 have hG63:grownCap w (n+1) c 51≤9223372036854775807:=by
  have:=grownCap_le_maxLen w (n+1) c 51 (by unfold maxLen;omega)
  unfold maxLen at this
  omega
 have hrz:∀ ty,(Builtin.append_ #[23,3] ty #[.slice (some ⟨g,0,none⟩) i c,.int .i64 ((n:Int)+1-(i:Int))]).run Tryz.prog w=
     .ok (.slice (some ⟨w.heap.size,0,none⟩) (n+1) (grownCap w (n+1) c 51)) (w.drew.alloc (.cells ((cur.toList.take (i*11)).toArray++Builtin.zeroCells (Value.agg ⟨[.int .i64 0,.int .i64 0,.string ⟨⟨[]⟩⟩,.string ⟨⟨[]⟩⟩,.int .i64 0,.int .i64 0,.int .i64 0,.string ⟨⟨[]⟩⟩,.string ⟨⟨[]⟩⟩,.bool false,.int .i64 0]⟩).cells (n+1-i)++Builtin.zeroCells (Value.agg ⟨[.int .i64 0,.int .i64 0,.string ⟨⟨[]⟩⟩,.string ⟨⟨[]⟩⟩,.int .i64 0,.int .i64 0,.int .i64 0,.string ⟨⟨[]⟩⟩,.string ⟨⟨[]⟩⟩,.bool false,.int .i64 0]⟩).cells (grownCap w (n+1) c 51-(n+1))) 51)):=fun ty=>by
  have h:=Lib.run_append_grow_zeros (P:=Tryz.prog) w 23 3 ty 51 inf _ .i64 .i64 Vf (by kernel_rfl) hi0 hz0 (some ⟨g,0,none⟩) i c (cur.toList.take (i*11)) hold (n+1-i) (by omega) (by omega) (by omega) (by omega) (by rw [hzb];omega) (by rw [hzb,hik];exact growslice_fits hroom hbig)
  rw [hik] at h
  rw [hkk]
  exact h
 generalize grownCap w (n+1) c 51=G at *
 have hrg:∀ q,q<i*11→((cur.toList.take (i*11)).toArray++Builtin.zeroCells (Value.agg ⟨[.int .i64 0,.int .i64 0,.string ⟨⟨[]⟩⟩,.string ⟨⟨[]⟩⟩,.int .i64 0,.int .i64 0,.int .i64 0,.string ⟨⟨[]⟩⟩,.string ⟨⟨[]⟩⟩,.bool false,.int .i64 0]⟩).cells (n+1-i)++Builtin.zeroCells (Value.agg ⟨[.int .i64 0,.int .i64 0,.string ⟨⟨[]⟩⟩,.string ⟨⟨[]⟩⟩,.int .i64 0,.int .i64 0,.int .i64 0,.string ⟨⟨[]⟩⟩,.string ⟨⟨[]⟩⟩,.bool false,.int .i64 0]⟩).cells (G-(n+1)))[q]?=cur[q]?:=fun q hq=>by
  rw [Array.getElem?_append_left (by simp [Builtin.zeroCells,Value.cells,hcur];omega),Array.getElem?_append_left (by simp [hcur];omega)]
  rw [List.getElem?_toArray,List.getElem?_take,if_pos hq];simp
 have hrs:((cur.toList.take (i*11)).toArray++Builtin.zeroCells (Value.agg ⟨[.int .i64 0,.int .i64 0,.string ⟨⟨[]⟩⟩,.string ⟨⟨[]⟩⟩,.int .i64 0,.int .i64 0,.int .i64 0,.string ⟨⟨[]⟩⟩,.string ⟨⟨[]⟩⟩,.bool false,.int .i64 0]⟩).cells (n+1-i)++Builtin.zeroCells (Value.agg ⟨[.int .i64 0,.int .i64 0,.string ⟨⟨[]⟩⟩,.string ⟨⟨[]⟩⟩,.int .i64 0,.int .i64 0,.int .i64 0,.string ⟨⟨[]⟩⟩,.string ⟨⟨[]⟩⟩,.bool false,.int .i64 0]⟩).cells (G-(n+1))).size=G*11:=by
  simp [Builtin.zeroCells,Value.cells,hcur]
  omega
 generalize (cur.toList.take (i*11)).toArray++Builtin.zeroCells (Value.agg ⟨[.int .i64 0,.int .i64 0,.string ⟨⟨[]⟩⟩,.string ⟨⟨[]⟩⟩,.int .i64 0,.int .i64 0,.int .i64 0,.string ⟨⟨[]⟩⟩,.string ⟨⟨[]⟩⟩,.bool false,.int .i64 0]⟩).cells (n+1-i)++Builtin.zeroCells (Value.agg ⟨[.int .i64 0,.int .i64 0,.string ⟨⟨[]⟩⟩,.string ⟨⟨[]⟩⟩,.int .i64 0,.int .i64 0,.int .i64 0,.string ⟨⟨[]⟩⟩,.string ⟨⟨[]⟩⟩,.bool false,.int .i64 0]⟩).cells (G-(n+1))=row at hrz hrg hrs
 refine ⟨row,hrs,hrg,?_⟩
 have hml:(mid cur i n 11).length=(n-i)*11:=by simp [mid,hcur];omega
 obtain ⟨W1,hW1⟩:∃ W1,W1=w.drew.alloc (.cells row 51):=⟨_,rfl⟩
 have hN:W1.heap[w.heap.size]?=some (.cells row 51 (0,0)):=by rw [hW1];exact heap_alloc_new w.drew _
 have hO:∀ b,b<w.heap.size→W1.heap[b]?=w.heap[b]?:=fun b hb=>by
  rw [hW1]
  show (w.drew.heap.push _)[b]?=_
  rw [Array.getElem?_push,if_neg (show ¬ b=w.drew.heap.size from by show ¬ b=w.heap.size;omega)]
  rfl
 rw [← hW1] at hrz ⊢
 have hcpA:∀ ty dc,(Builtin.copy_ #[23,22] ty #[.slice (some ⟨w.heap.size,i*11,none⟩) (n+1-i) dc,.slice (some ⟨vb,voff,none⟩) 1 vc]).run Tryz.prog W1=.ok (goInt (1:Nat)) (W1.setRow w.heap.size (spl row (i*11) ss)):=fun ty dc=>by
  refine nA _ 23 22 ty 51 inf w.heap.size (i*11) (n+1-i) dc ⟨vb,voff,none⟩ 1 vc 1 row 51 ss Vf hi0 hN (by simp only [Nat.min_def];split <;> omega) (by rw [hzs];omega) (fun j v hj=>?_) (by omega) os
  rw [Addr.add_lit]
  have:W1.cell? ⟨vb,voff+j,none⟩=w.cell? ⟨vb,voff+j,none⟩:=by simp only [World.cell?,hO vb hvb]
  rw [this]
  exact hx j v hj
 have XV:(spl row (i*11) ss).size=G*11:=by rw [su (by omega)];omega
 generalize spl row (i*11) ss=iN at hcpA XV ⊢
 have hN1:((W1.setRow w.heap.size iN).drew).heap[w.heap.size]?=some (.cells iN 51 (0,0)):=setRow_heap W1 w.heap.size row iN 51 (0,0) hN
 have hcpB:∀ ty dc sc,(Builtin.copy_ #[23,23] ty #[.slice (some ⟨w.heap.size,(i+1)*11,none⟩) (n-i) dc,.slice (some ⟨g,i*11,none⟩) (n-i) sc]).run Tryz.prog ((W1.setRow w.heap.size iN).drew)=.ok (goInt (n-i:Nat)) (((W1.setRow w.heap.size iN).drew).setRow w.heap.size (spl iN ((i+1)*11) (mid cur i n 11))):=fun ty dc sc=>by
  refine nA _ 23 23 ty 51 inf w.heap.size ((i+1)*11) (n-i) dc ⟨g,i*11,none⟩ (n-i) sc (n-i) iN 51 _ Vf hi0 hN1 (by simp) (by rw [hzs];omega) (fun j v hj=>?_) (by omega) oc
  rw [Addr.add_lit]
  have e:((W1.setRow w.heap.size iN).drew).heap[g]?=some (.cells cur 51 (0,0)):=by
   have:((W1.setRow w.heap.size iN).drew).heap[g]?=W1.heap[g]?:=setRow_other W1 w.heap.size g iN (by omega)
   rw [this,hO g hgw];exact hg
  simp only [World.cell?,e]
  unfold mid at hj
  rw [List.getElem?_drop,List.getElem?_take] at hj
  split at hj
  · simpa using hj
  · cases hj
 generalize spl iN ((i+1)*11) (mid cur i n 11)=cur2 at hcpB ⊢
 have hGi:¬ (G=i):=by omega
 have hGim:¬ (G=i+1):=by omega
 have hci:¬ (c=i):=by omega
 have hw1:IntKind.i64.wrap ((i:Int)+1)=(i:Int)+1:=by rw [IntKind.wrap_i64];omega
 have hw2:IntKind.i64.wrap ((n:Int)+1)=(n:Int)+1:=by rw [IntKind.wrap_i64];omega
 have hw3:IntKind.i64.wrap ((n:Int)+1-(i:Int))=(n:Int)+1-(i:Int):=by rw [IntKind.wrap_i64];omega
 have hb1:(0:Int)≤(i:Int)+1:=by omega
 have hin:i≤n:=by omega
 have htn:((i:Int)+1).toNat=i+1:=by omega
 have hb3:(i:Int)≤(n:Int):=by omega
 have hb5:n+1-(i+1)=n-i:=by omega
 clear hkk hik hold hrs hrg hml XV hW1 hN hN1 hO hsl
 go_enter Tryz.func29,Tryz.ntmps29
 go_wp2_with (first
  | (at_builtin;refine Lib.wpList_append_run _ rfl _ _ _ _ rfl _ _ rfl rfl _ _ (hrz _) ?_)
  | (at_builtin;refine wpList_copy_runI _ rfl _ _ 23 22 rfl _ _ rfl rfl (hcpA _ _) ?_))
 go_region_law_o (refine step_copy_runI rfl _ _ 23 23 rfl _ _ (by simp [Act.eval,Act.put]) (by simp [Act.eval,Act.put]) (hcpB _ _ _) ?_)
 go_wp2
 go_ret
 exact ⟨rfl,rfl⟩
theorem acK:abh Tryz.prog 29 23 22 51 11 120:=⟨⟨_,Tryz.func29,by kernel_rfl,by kernel_rfl⟩,abk,adC,acJ⟩
end Lp
namespace Lp
open Go Go.Proofs
end Lp
namespace Lp
open Go Go.Proofs
def EJ:dN:=fun args objs K=>match args with
 | [.bO k ver,.int .i64 i,.bO k2 OV]=>∃ o,objs[k]?=some o∧o.live=true∧o.ver=ver∧o.sz=11∧o.ty=51∧ofR aV o.xs (HK.mk:HK fun l=>∃ o2,objs[k2]?=some o2∧o2.live=true∧o2.ver=OV∧o2.sz=11∧¬ k2=k∧ofR aV o2.xs (HK.mk:HK fun fs=>∃ f,fs=[f]∧
     0≤i∧i.toNat≤l.length∧l.length≤1000000∧K (.bO k (ver+1)) (objs.set k ⟨51,11,(l.take i.toNat++[f]++l.drop i.toNat).map aV,true,ver+1⟩) 2))
 | _=>False
theorem Rv:aD Tryz.prog 29 EJ:=by
 intro args objs K h
 unfold EJ at h
 split at h
 · rename_i k ver i k2 OV
   obtain ⟨o,h1,h2,h3,h4,h5,l,h6,o2,g1,g2,g3,g4,hkk,fs,g5,f,rfl,h7,h8,h9,h10⟩:=h
   obtain ⟨n,rfl⟩:∃ n:Nat,i=n:=⟨i.toNat,by omega⟩
   rw [Int.toNat_natCast] at h8 h10
   obtain ⟨ty,sz,xs,live,vr⟩:=o
   simp only [] at h2 h3 h4 h5 h6
   subst h2;subst h3;subst h4;subst h5;subst h6
   have hu:=XU (x:=aV f) (i:=n) (ti:=D 51) (by':=120) acK Vf aap (hD _) (by intro h;cases h) rfl rfl rfl rfl h1 rfl rfl g1 g2 g3 g4 g5 hkk (fun y hy=>by obtain ⟨s,_,rfl⟩:=List.mem_map.1 hy;exact ⟨rfl,rfl⟩) ⟨rfl,rfl⟩ (by simpa using h8) (by rw [List.length_map];omega) (by rw [List.length_map];omega)
   refine ⟨_,_,_,.used _ _ hu,?_⟩
   have e:(l.map aV).take n++[aV f]++(l.map aV).drop n=(l.take n++[f]++l.drop n).map aV:=by simp
   rw [e]
   exact h10
 · exact h.elim
theorem adD:(∀ (K:aK→Prop) (a:eT),ofR aV [aV a] (HK.mk:HK K)=K [a])∧(∀ (K:aK→Prop) (l:aK),ofR aV (l.map aV) (HK.mk:HK K)=K l)∧(∀ (K:aK→Prop) (l:aK) (i:Nat) (y:eT),ofR aV ((l.map aV).set i (aV y)) (HK.mk:HK K)=K (l.set i y)):=
 ⟨fun K a=>Qj nR K [a],fun K l=>Qj nR K l,fun K l i y=>by rw [← List.map_set];exact Qj nR K _⟩
theorem Zc {X:List Obj}{k ver:Nat}{t:TypeId}{l:aK}(h:X[k]?=some ⟨t,11,l.map aV,true,ver⟩):fJ 1 0 X (.bO k ver)=aA l:=by
 have e:(l.map aV).map (PV.bQ (jl 0 0 X))=l.map aV:=OG _ (fun _=>rfl) l
 simp only [fJ,Nat.not_lt_zero,if_false,jl,h,Nat.zero_le,decide_true,Bool.true_and,beq_self_eq_true,if_true,e]
 rfl
theorem acL (t:aK):(vU t).live=true∧(vU t).ver=0∧(vU t).sz=11∧(vU t).ty=51∧(vU t).xs=t.map aV:=⟨rfl,rfl,rfl,rfl,rfl⟩
theorem XW {t:aK}{i:Nat}{x:eT}(a:f_) (hx:t[i]?=some x) (hml:i+1+x.many.toNat≤t.length) :
  (t.set i { x with many:=x.many+1 }).take (i+1+x.many.toNat)++[kF a]++(t.set i { x with many:=x.many+1 }).drop (i+1+x.many.toNat)=kN t i a:=by
 have hil:=(List.getElem?_eq_some_iff.1 hx).1
 have e:∀ y,t.set i y=t.take i++y::t.drop (i+1):=fun y=>by rw [List.set_eq_take_append_cons_drop,if_pos hil]
 have l1:(t.take i).length=i:=by rw [List.length_take];omega
 have dn:(t.take i).drop (i+1+x.many.toNat)=[]:=List.drop_eq_nil_of_le (by omega)
 have dt:(t.take i).take (i+1+x.many.toNat)=t.take i:=List.take_of_length_le (by omega)
 unfold kN
 rw [hx]
 simp only
 rw [e,List.take_append,List.drop_append,l1,dn,dt,show i+1+x.many.toNat-i=x.many.toNat+1 by omega,List.take_succ_cons,List.drop_succ_cons,List.drop_drop]
 simp
def uJ (t:aK) (p:List Stp) (a:f_):PV:=match eF p t with
 | some i=>.bT [aA (kN t i a),.int .i64 0]
 | none=>.bT [.sl 0 [] (some true),.int .i64 6]
def JG (t:aK) (p:List Stp):Prop:=∀ i x,eF p t=some i→t[i]?=some x→0≤x.many∧i+1+x.many.toNat≤t.length
def xS (t:aK) (p:List Stp) (a:f_):aK×Int:=match eF p t with
 | some i=>(kN t i a,0)
 | none=>([],6)
theorem v_ (t:aK) (p:List Stp) (a:f_):mI (uJ t p a) (.bT [aA (xS t p a).1,.int .i64 (xS t p a).2]):=by
 unfold uJ xS
 split
 · exact .refl _
 · exact aaW (.inr rfl) (rE 0 11) (.refl _)
theorem Ir (t:aK) (p:List Stp) (a:f_) (hs:kD t) (hl:t.length≤100000) (ho:Y.One t) (hp:p.length≤1000000) (hm:JG t p) :
  ai Tryz.prog 12 [aA t,dF p,bP a] [] (uJ t p a) []:=by
 refine xR.vE (T:=aU Tryz.prog [(30,rX)]) 1 hD (aj (af Lb ah)) aY (by decide) (by decide) fun Q hQ=>?_
 cases hlf:eF p t with
 | none=>
  have hr:iF t p=.bT [.int .i64 0,.bool false]:=by simp [iF,hlf]
  have hres:uJ t p a=.bT [.sl 0 [] (some true),.int .i64 6]:=by simp [uJ,hlf]
  (conv=>arg 4;cbv);simp(maxSteps:=400000)only[↓ax,ay,BEq.rfl,reduceIte,reduceCtorEq,Nat.reduceLT,Nat.reduceAdd,Nat.reduceSub,Nat.reduceMul,Nat.reduceBEq,Nat.reduceLeDiff,Int.reduceToNat,Int.reduceLE,hQ,↓rX,hr,hres,bf]
  exact ⟨hs,ho,hp⟩
 | some i=>
  have hr:iF t p=.bT [.int .i64 i,.bool true]:=by simp [iF,hlf]
  have hres:uJ t p a=.bT [aA (kN t i a),.int .i64 0]:=by simp [uJ,hlf]
  obtain ⟨x,hx,hk,_⟩:=sj hlf
  obtain ⟨hm0,hml⟩:=hm i x hlf hx
  have zi:(0≤(i:Int))=True:=eq_true (by omega)
  have hit:=(List.getElem?_eq_some_iff.1 hx).1
  have hlt:((i:Int)<(t.length:Int))=True:=eq_true (by omega)
  have hle:((i:Int)≤(t.length:Int))=True:=eq_true (by omega)
  (conv=>arg 4;cbv);simp(maxSteps:=400000)only[↓ax,ay,BEq.rfl,reduceIte,reduceCtorEq,Nat.reduceLT,Nat.reduceAdd,Nat.reduceSub,Nat.reduceMul,Nat.reduceBEq,Nat.reduceLeDiff,Int.reduceToNat,Int.reduceLE,hQ,↓rX,hr,hres,zi,hlt,hle,hx,bf,qL,iL,iM,zH,bY,dS,UR,Int.toNat_natCast]
  have e1:((i:Int)+1).toNat=i+1:=by omega
  have e2:((i:Int)+1+x.many).toNat=i+1+x.many.toNat:=by omega
  have l1:(List.drop 0 (t.take i)).length=i:=by rw [List.length_drop,List.length_take];omega
  have l2:(List.drop (i+1) (t.take (i+1+x.many.toNat))).length=x.many.toNat:=by rw [List.length_drop,List.length_take];omega
  have l3:(List.drop (i+1+x.many.toNat) (t.take t.length)).length=t.length-(i+1+x.many.toNat):=by rw [List.take_length,List.length_drop]
  have hin:kN t i a=t.take i++{ x with many:=x.many+1 }::(List.drop (i+1) (t.take (i+1+x.many.toNat))++kF a::t.drop (i+1+x.many.toNat)):=by
   unfold kN
   rw [hx]
   simp only
   rw [List.drop_take,show i+1+x.many.toNat-(i+1)=x.many.toNat by omega]
  rw [e1,e2,l1,l2,l3]
  and_intros
  all_goals first | exact hs | exact ho | exact hp | rfl | omega | skip
  rw [Zc (l:=kN t i a) (by rw [hin];simp only [List.getElem?_cons_succ,List.getElem?_cons_zero,List.map_append,List.map_cons,List.map_nil,List.drop_zero,List.take_length,List.append_assoc,List.cons_append,List.nil_append];rfl)]
def nX:dN:=fun args objs K=>match args with
 | [a0,a1,a2]=>gu aA a0 (HK.mk:HK fun t=>gu dF a1 (HK.mk:HK fun p=>gu bP a2 (HK.mk:HK fun a=>(kD t)∧(t.length≤100000)∧(Y.One t)∧(p.length≤1000000)∧(JG t p)∧K (.bT [aA (xS t p a).1,.int .i64 (xS t p a).2]) objs 0)))
 | _=>False
theorem Gz:aD Tryz.prog 12 (nX):=by
 intro args objs K h
 unfold nX at h
 split at h
 · rename_i a0 a1 a2
   obtain ⟨t,rfl,p,rfl,a,rfl,h1,h2,h3,h4,h5,hk⟩:=h
   exact ⟨_,_,_,.pure _ rfl ((Ir t p a h1 h2 h3 h4 h5).res (v_ t p a)),hk⟩
 · exact h.elim
end Lp
namespace Lp
open Go Go.Proofs
theorem DJ (t:aK) (p:List Stp) (a:f_) (hl:t.length≤100000) (ho:Y.One t) (hp:p.length≤1000000) (hm:JG t p) :
  ai Tryz.prog 11 [aA t,dF p,bP a] [] (uJ t p a) []:=by
 refine Io.vE (T:=aU Tryz.prog [(27,vZ),(28,ng),(29,EJ)]) 1 hD (aj (af OT (af BK (af Rv ah)))) aY (by decide) (by decide) fun Q hQ=>?_
 cases hlf:eF p t with
 | none=>
  have hr:iF t p=.bT [.int .i64 0,.bool false]:=by simp [iF,hlf]
  have hres:uJ t p a=.bT [.sl 0 [] (some true),.int .i64 6]:=by simp [uJ,hlf]
  (conv=>arg 4;cbv);simp(maxSteps:=400000)only[↓ax,ay,BEq.rfl,reduceIte,reduceCtorEq,Nat.reduceLT,Nat.reduceAdd,Nat.reduceSub,Nat.reduceMul,Nat.reduceBEq,Nat.reduceLeDiff,Int.reduceToNat,Int.reduceLE,hQ,↓vZ,hr,hres,bf]
  exact ⟨by omega,ho,hp⟩
 | some i=>
  have hr:iF t p=.bT [.int .i64 i,.bool true]:=by simp [iF,hlf]
  have hres:uJ t p a=.bT [aA (kN t i a),.int .i64 0]:=by simp [uJ,hlf]
  obtain ⟨x,hx,hk,_⟩:=sj hlf
  obtain ⟨hm0,hml⟩:=hm i x hlf hx
  have zi:(0≤(i:Int))=True:=eq_true (by omega)
  have hit:=(List.getElem?_eq_some_iff.1 hx).1
  have hlt:((i:Int)<(t.length:Int))=True:=eq_true (by omega)
  have hsg:∀ y,((t.map aV).set i y)[i]?=some y:=fun y=>List.getElem?_set_self (by rw [List.length_map];omega)
  have hmg:(t.map aV)[i]?=some (aV x):=by rw [List.getElem?_map,hx];rfl
  (conv=>arg 4;cbv);simp(maxSteps:=400000)only[↓ax,ay,BEq.rfl,reduceIte,reduceCtorEq,Nat.reduceLT,Nat.reduceAdd,Nat.reduceSub,Nat.reduceMul,Nat.reduceBEq,Nat.reduceLeDiff,Int.reduceToNat,Int.reduceLE,hQ,↓vZ,hr,hres,zi,hlt,hsg,hmg,List.length_map,List.length_set,↓ng,acL,qL,iL,iM,zH,bY,dS,UR,↓EJ,adD,bf,Int.toNat_natCast]
  have e1:((i:Int)+(x.many+1)).toNat=i+1+x.many.toNat:=by omega
  rw [e1]
  exact ⟨by omega,ho,hp,by omega,⟨by omega,by omega⟩,⟨by omega,by omega⟩,by decide,kF a,rfl,by omega,by omega,by omega,by decide,by rw [XW a hx hml]⟩
def sw:dN:=fun args objs K=>match args with
 | [a0,a1,a2]=>gu aA a0 (HK.mk:HK fun t=>gu dF a1 (HK.mk:HK fun p=>gu bP a2 (HK.mk:HK fun a=>(t.length≤100000)∧(Y.One t)∧(p.length≤1000000)∧(JG t p)∧K (.bT [aA (xS t p a).1,.int .i64 (xS t p a).2]) objs 0)))
 | _=>False
theorem LH:aD Tryz.prog 11 (sw):=by
 intro args objs K h
 unfold sw at h
 split at h
 · rename_i a0 a1 a2
   obtain ⟨t,rfl,p,rfl,a,rfl,h1,h2,h3,h4,hk⟩:=h
   exact ⟨_,_,_,.pure _ rfl ((DJ t p a h1 h2 h3 h4).res (v_ t p a)),hk⟩
 · exact h.elim
end Lp
namespace Lp
open Go Go.Proofs
def Ed (v:List f_):Obj:=⟨29,7,v.map bP,true,0⟩
theorem wh (v:List f_):fQ [Ed v]:=by
 intro o ho x hx p hp
 simp only [List.mem_singleton] at ho
 subst ho
 simp only [Ed,List.mem_map] at hx
 obtain ⟨n,_,rfl⟩:=hx
 simp only [bP,PV.cells,List.mem_cons,List.not_mem_nil,or_false] at hp
 rcases hp with rfl | rfl | rfl | rfl | rfl | rfl | rfl <;> rfl
theorem XY (d n:Nat) (objs:List Obj) (v:List f_):(v.map bP).map (PV.bQ (fJ d n objs))=v.map bP:=by
 rw [List.map_map]
 exact List.map_congr_left fun x _=>rfl
theorem Rw:ai Tryz.prog 88 [.sl 7 [] (some true)] [] (.bO 0 0) [Ed []]:=by
 refine gF.made (T:=aU Tryz.prog []) 0 hD (aj ah) aY ?_
 (conv=>arg 4;cbv);simp only [↓yP,Dg,↓Aj,↓xE,↓Ak,xG,↓lV,Dh,Cj,Nat.reduceAdd,Nat.reduceSub,qm,O4,bL,Es,Et,vz,dP,forall_const,reduceCtorEq,false_imp_iff,and_true,TK.slice.injEq,exists_eq',true_and]
 exact ⟨_,0,0,_,Weak.Fy 2 29 7 rfl,rfl,rfl,rfl,rfl,rfl,wh []⟩
theorem OY (v:List f_) (hv:v.length≤1099511627776):ai Tryz.prog 88 [.sl 7 (v.map bP) (some false)] [] (.bO 0 0) [Ed v]:=by
 refine gF.made (T:=aU Tryz.prog []) 0 hD (aj ah) aY ?_
 (conv=>arg 4;cbv);simp only [↓yP,Dg,↓Aj,↓xE,↓Ak,xG,↓lV,Dh,Cj,Nat.reduceAdd,Nat.reduceSub,qm,O4,bL,Es,Et,vz,dP,forall_const,reduceCtorEq,false_imp_iff,and_true,TK.slice.injEq,exists_eq',true_and]
 simp only [bG,dK,lK,newObj,iH,bL,ne_eq,reduceCtorEq,not_false_eq_true,true_and,if_true,List.all_nil,Nat.zero_mul,Nat.zero_le,List.nil_append,List.length_nil,List.getElem?_cons_zero,Option.some.injEq]
 refine ⟨rfl,rfl,rfl,rfl,?_,_,rfl,rfl,rfl,rfl,rfl,?_,?_,fun _ _ h=>h.elim,_,0,2,_,Weak.refl _ _,rfl,rfl,rfl,rfl,?_,wh v⟩
 · intro y hy
   obtain ⟨n,_,rfl⟩:=List.mem_map.1 hy
   exact ⟨rfl,rfl⟩
 · simp;omega
 · simp;omega
 · simp only [gy,Ed,List.replicate_zero,List.nil_append,XY]
theorem OZ (v:List f_) (hv:v.length≤1099511627776):ai Tryz.prog 88 [bg v] [] (.bO 0 0) [Ed v]:=
 ai.split (pre:=[]) (post:=[]) (fun h=>by
  have:v=[]:=by simpa using h
  subst this
  exact Rw) (OY v hv)
def xk:dN:=fun args objs K=>match args with
 | [a]=>gu bg a (HK.mk:HK fun t=>t.length≤1000000∧K (.bO objs.length 0) (objs++[Ed t]) 2)
 | _=>False
theorem LJ:aD Tryz.prog 88 xk:=by
 intro args objs K h
 unfold xk at h
 split at h
 · rename_i a
   obtain ⟨t,rfl,hv,hk⟩:=h
   have h:=nP.made (P:=Tryz.prog) (objs:=objs) _ _ rfl (wh t) (OZ t (by omega))
   exact ⟨_,_,_,h,by simpa [PV.shift,PV.sP] using hk⟩
 · exact h.elim
end Lp
namespace Lp
open Go
def JH (x:f_):f_:=⟨Rz x.n,x.c⟩
def wm (t:aK):Int:=match t with | n::_=>n.n | []=>0
def Pg (t:aK):List UInt8:=match t with | n::_=>n.s | []=>[]
def wo (t:aK) (A:List f_) (x:f_):Bool:=(lG (wm t) (A++[JH x])).2
def wu (t u:aK) (k:Nat):Bool:=o9 (wm t) k && !o9 (wm u) k && (lG ((2 ^ k:Nat):Int) (dB t)).2
def yE (t u:aK):Bool:=!(List.range 5).any (wu t u) && !(dB u).any (wo t (dB t))
def y0 (u:aK):aK:=(bZ u).headD []
variable {pk:List UInt8→Bool}{pth:List UInt8→List Stp}
end Lp
namespace Lp
open Go Go.Proofs
open Nat (reduceAdd reduceLeDiff reduceMul reduceSub)
open Int (reduceLE reduceToNat)
def yF (l:List f_):Prop:=∀ a ∈ l,eP a.c∧a.c.s.length≤500000∧0≤a.n∧a.n≤5
theorem LK (A:List f_) (t:aK) (n:eT) (x:f_) (hg0:t[0]?=some n) (hn:0≤n.n∧n.n≤31) (hl:A.length≤100000) (hA:yF A) (hx:yF [x]) :
  ai Tryz.prog 87 [bP x,.addr (bg A),.addr (aA t)] [] (.bool (lG n.n (A++[JH x])).2) []:=by
 refine Ec.bE (T:=aU Tryz.prog [(88,xk),(89,Bn),(85,p8)]) 1 hD (aj (af LJ (af Oc (af Dx ah)))) aY (by decide) fun Q hQ=>?_
 (conv=>arg 4;cbv);simp(maxSteps:=400000)only[↓ax,ay,BEq.rfl,reduceIte,reduceCtorEq,Nat.reduceLT,reduceAdd,reduceSub,reduceMul,Nat.reduceBEq,reduceLeDiff,reduceToNat,reduceLE,hQ]
 refine aT _ (Weak.freeze 1 0 (Nat.zero_le _) _) ?_
 have hoa:(Ed A).live=true∧(Ed A).ver=0∧(Ed A).sz=7∧(Ed A).ty=29∧(Ed A).xs=A.map bP:=⟨rfl,rfl,rfl,rfl,rfl⟩
 simp(maxSteps:=400000)only[↓ax,ay,BEq.rfl,reduceIte,reduceCtorEq,Nat.reduceLT,reduceAdd,reduceSub,reduceMul,Nat.reduceBEq,reduceLeDiff,reduceToNat,reduceLE,hQ,Na,↓xk,↓Bn,UR,hoa]
 refine ⟨by omega,(hx x (by simp)).2.2,by omega,by omega,by decide,?_⟩
 refine aT _ (Weak.freeze 1 0 (Nat.zero_le _) _) ?_
 have hz:∀ v,fJ 1 0 [⟨29,7,A.map bP++[bP ⟨Rz x.n,x.c⟩],true,v⟩] (.bO 0 v)=bg (A++[JH x]):=fun v=>by
  have:=EF (A++[JH x]) v 29 []
  simpa [JH] using this
 simp(maxSteps:=400000)only[↓ax,ay,BEq.rfl,reduceIte,reduceCtorEq,Nat.reduceLT,reduceAdd,reduceSub,reduceMul,Nat.reduceBEq,reduceLeDiff,reduceToNat,reduceLE,hQ,hz,hg0,↓p8,jU,bf,bI,bJ]
 have hall:∀ a ∈ A++[JH x],eP a.c∧a.c.s.length≤500000:=fun a ha=>by
  rcases List.mem_append.1 ha with h | h
  · exact ⟨(hA a h).1,(hA a h).2.1⟩
  · rw [List.mem_singleton.1 h]
    exact ⟨(hx x (by simp)).1,(hx x (by simp)).2.1⟩
 exact ⟨hn,by omega,fun a ha=>(hall a ha).1,fun a ha=>(hall a ha).2⟩
structure zO (t:aK) (A:List f_):Prop where
 ne:t≠[]
 tl:t.length≤1000000
 mask:0≤wm t∧wm t≤31
 len:A.length≤100000
 ok:yF A
theorem Iu (A:List f_) (t:aK) (x:f_) (h:zO t A) (hx:yF [x]) :
  ai Tryz.prog 87 [bP x,.addr (bg A),.addr (aA t)] [] (.bool (wo t A x)) []:=by
 cases t with
 | nil=>exact absurd rfl h.ne
 | cons n r=>exact LK A (n::r) n x rfl h.mask h.len h.ok hx
def qa (t:aK) (A:List f_):dN:=fun args objs K=>match args with
 | [a0,a1,a2]=>gu bP a0 (HK.mk:HK fun x=>a1=(.addr (bg A))∧a2=(.addr (aA t))∧(zO t A)∧(yF [x])∧K (.bool (wo t A x)) objs 0)
 | _=>False
theorem Iw (t:aK) (A:List f_):aD Tryz.prog 87 (qa t A):=by
 intro args objs K h
 unfold qa at h
 split at h
 · rename_i a0 a1 a2
   obtain ⟨x,rfl,rfl,rfl,h1,h2,hk⟩:=h
   exact ⟨_,_,_,.pure _ rfl (Iu A t x h1 h2),hk⟩
 · exact h.elim
theorem LM (t:aK) (A l:List f_) (hl:l.length≤4611686018427387904) (hs:zO t A) (ho:yF l):ai Tryz.prog 104 [bg l,.fn 87 [] [.addr (bg A),.addr (aA t)]] [] (.int .i64 (idxOf (wo t A) l)) []:=by
 refine fB.bE (T:=aU Tryz.prog [(87,(qa t A))]) 0 hD (aj (af (Iw t A) ah)) aY (by decide) fun Q hQ=>?_
 (conv=>arg 4;cbv);simp(maxSteps:=400000)only[↓ax,ay,BEq.rfl,reduceIte,reduceCtorEq,Nat.reduceLT,reduceAdd,reduceSub,reduceMul,Nat.reduceBEq,reduceLeDiff,reduceToNat,reduceLE,hQ]
 refine aH (fun m S=>∃ i:Nat,i+m=l.length∧(∀ (j:Nat) y,j<i→l[j]?=some y→wo t A y=false)∧S=⟨dU 19 [(0,bg l),(1,.fn 87 [] [.addr (bg A),.addr (aA t)]),(7,.int .i64 l.length),(8,.int .i64 i)],[]⟩) l.length ⟨0,by omega,fun j y h=>absurd h (Nat.not_lt_zero j),?_⟩ ?_
 · simp only [dh,keepR,reduceAdd,oC,Nat.reduceBEq,List.map_nil]
   rfl
 rintro m S ⟨i,him,hb,rfl⟩
 rcases Nat.lt_or_ge i l.length with h | h
 rotate_left 1
 · have hlt:((i:Int)<(l.length:Int))=False:=eq_false (by omega)
   have hr:=zu (l:=l) fun j y hj=>hb j y (by have:=(List.getElem?_eq_some_iff.1 hj).1;omega) hj
   simp(maxSteps:=400000)only[↓ax,ay,BEq.rfl,reduceIte,reduceCtorEq,Nat.reduceLT,reduceAdd,reduceSub,reduceMul,Nat.reduceBEq,reduceLeDiff,reduceToNat,reduceLE,hQ,hlt,hr]
 have hlt:((i:Int)<(l.length:Int))=True:=eq_true (by omega)
 have zi:(0≤(i:Int))=True:=eq_true (by omega)
 have hgi:=List.getElem?_eq_getElem h
 have hao:yF [l[i]]:=fun a ha=>by rw [List.mem_singleton.1 ha];exact ho _ (List.getElem_mem h)
 generalize l[i]=o at hgi hao
 cases hp:wo t A o
 rotate_left 1
 · have hr:idxOf (wo t A) l=i:=idxOf_hit hgi hp hb
   simp(maxSteps:=400000)only[↓ax,ay,BEq.rfl,reduceIte,reduceCtorEq,Nat.reduceLT,reduceAdd,reduceSub,reduceMul,Nat.reduceBEq,reduceLeDiff,reduceToNat,reduceLE,hQ,hlt,zi,hgi,↓qa,hp,hr]
   exact ⟨hs,hao⟩
 · simp(maxSteps:=400000)only[↓ax,ay,BEq.rfl,reduceIte,reduceCtorEq,Nat.reduceLT,reduceAdd,reduceSub,reduceMul,Nat.reduceBEq,reduceLeDiff,reduceToNat,reduceLE,hQ,hlt,zi,hgi,↓qa,hp]
   refine ⟨hs,hao,⟨by omega,by omega⟩,m-1,by omega,i+1,by omega,fun j y hj hy=>?_,rfl⟩
   rcases Nat.lt_or_ge j i with g | g
   · exact hb j y g hy
   · have:j=i:=by omega
     subst this
     rw [hgi] at hy;cases hy
     exact hp
def uj (t:aK) (A:List f_):dN:=fun args objs K=>match args with
 | [a0,a1]=>gu bg a0 (HK.mk:HK fun l=>a1=(.fn 87 [] [.addr (bg A),.addr (aA t)])∧(l.length≤4611686018427387904)∧(zO t A)∧(yF l)∧K (.int .i64 (idxOf (wo t A) l)) objs 0)
 | _=>False
theorem Iy (t:aK) (A:List f_):aD Tryz.prog 104 (uj t A):=by
 intro args objs K h
 unfold uj at h
 split at h
 · rename_i a0 a1
   obtain ⟨l,rfl,rfl,h1,h2,h3,hk⟩:=h
   exact ⟨_,_,_,.pure _ rfl (LM t A l h1 h2 h3),hk⟩
 · exact h.elim
theorem LP (t:aK) (A l:List f_) (hl:l.length≤4611686018427387904) (hs:zO t A) (ho:yF l):ai Tryz.prog 86 [bg l,.fn 87 [] [.addr (bg A),.addr (aA t)]] [] (.bool (l.any (wo t A))) []:=by
 refine eH.bE (T:=aU Tryz.prog [(104,(uj t A))]) 0 hD (aj (af (Iy t A) ah)) aY (by decide) fun Q hQ=>?_
 (conv=>arg 4;cbv);simp(maxSteps:=400000)only[↓ax,ay,BEq.rfl,reduceIte,reduceCtorEq,Nat.reduceLT,reduceAdd,reduceSub,reduceMul,Nat.reduceBEq,reduceLeDiff,reduceToNat,reduceLE,hQ,↓uj,CK]
 exact ⟨hl,hs,ho⟩
def um (t:aK) (A:List f_):dN:=fun args objs K=>match args with
 | [a0,a1]=>gu bg a0 (HK.mk:HK fun l=>a1=(.fn 87 [] [.addr (bg A),.addr (aA t)])∧(l.length≤4611686018427387904)∧(zO t A)∧(yF l)∧K (.bool (l.any (wo t A))) objs 0)
 | _=>False
theorem Iz (t:aK) (A:List f_):aD Tryz.prog 86 (um t A):=by
 intro args objs K h
 unfold um at h
 split at h
 · rename_i a0 a1
   obtain ⟨l,rfl,rfl,h1,h2,h3,hk⟩:=h
   exact ⟨_,_,_,.pure _ rfl (LP t A l h1 h2 h3),hk⟩
 · exact h.elim
end Lp
namespace Lp
open Go Go.Proofs
open Nat (reduceAdd reduceLeDiff reduceMul reduceSub)
open Int (reduceLE reduceToNat)
theorem O0 {mask:Int}{k:Nat}(hm:0≤mask∧mask≤31) (hk:k<5):xW .and .i64 mask ((2 ^ k:Nat):Int)=if o9 mask k then ((2 ^ k:Nat):Int) else 0:=by
 have key:∀ (m:Fin 32) (k:Fin 5),xW .and .i64 (m.val:Int) ((2 ^ k.val:Nat):Int)=if (m.val / 2 ^ k.val) % 2==1 then ((2 ^ k.val:Nat):Int) else 0:=by decide +kernel
 have:=key ⟨mask.toNat,by omega⟩ ⟨k,hk⟩
 simp only [Int.toNat_of_nonneg hm.1] at this
 exact this
theorem Zd {i:Nat}(h:i<5) (K:PV→Prop):og .shl .i64 .i64 1 (i:Int) K=K (.int .i64 ((2 ^ i:Nat):Int)):=by
 have:i=0∨i=1∨i=2∨i=3∨i=4:=by omega
 rcases this with rfl | rfl | rfl | rfl | rfl <;> simp [og,IntKind.bits] <;> rfl
theorem Ze (a b:Int) (K:PV→Prop):og .and .i64 .i64 a b K=K (.int .i64 (xW .and .i64 a b)):=by simp [og]
def scO (a:aK):List Obj:=[xQ a,⟨56,1,[bg (dB a)],true,1⟩]
theorem O1 (a b:aK) (hoa:Y.One a) (Eg:Y.One b) (hla:a.length≤100000) (hlb:b.length≤100000) (hA:zO a (dB a)) (hB:zO b (dB b)) :
  ai Tryz.prog 57 [aA a,aA b] [] (.bool (yE a b)) []:=by
 refine Ip.bE (T:=aU Tryz.prog [(84,p_),(85,p8),(86,(um a (dB a)))]) 1 hD (aj (af Im (af Dx (af (Iz a (dB a)) ah)))) aY (by decide) fun Q hQ=>?_
 obtain ⟨n,hn,hmn⟩:∃ n,a[0]?=some n∧n.n=wm a:=by
  cases a with
  | nil=>exact absurd rfl hoa.ne
  | cons n r=>exact ⟨n,rfl,rfl⟩
 obtain ⟨n',hn',hmn'⟩:∃ n,b[0]?=some n∧n.n=wm b:=by
  cases b with
  | nil=>exact absurd rfl Eg.ne
  | cons n r=>exact ⟨n,rfl,rfl⟩
 (conv=>arg 4;cbv);simp(maxSteps:=400000)only[↓ax,ay,BEq.rfl,reduceIte,reduceCtorEq,Nat.reduceLT,reduceAdd,reduceSub,reduceMul,Nat.reduceBEq,reduceLeDiff,reduceToNat,reduceLE,hQ,↓p_]
 refine ⟨by omega,hoa,?_⟩
 refine aH (fun m S=>∃ i:Nat,i+m=5∧(∀ k,k<i→wu a b k=false)∧S=⟨dU 46 [(1,aA b),(2,.bM 0 1 0 0),(5,.bM 1 1 0 0),(12,.int .i64 i)],scO a⟩) 5 (hz:=Nat.zero_le _) ⟨0,by omega,fun k h=>absurd h (Nat.not_lt_zero k),?_⟩ ?_
 · simp only [dh,keepR,reduceAdd,oC,Nat.reduceBEq,List.map_nil]
   rfl
 rintro m S ⟨i,him,hb,rfl⟩
 rcases Nat.lt_or_ge i 5 with h | h
 · have hlt:((i:Int)<5)=True:=eq_true (by omega)
   unfold scO xQ
   have h3:=Zd h
   have hp0:(((2 ^ i:Nat):Int)=0)=False:=eq_false (by have:=Nat.pow_pos (n:=i) (show 0<2 by decide);omega)
   have hp1:0≤((2 ^ i:Nat):Int)∧((2 ^ i:Nat):Int)≤31:=by
    have:i=0∨i=1∨i=2∨i=3∨i=4:=by omega
    rcases this with rfl | rfl | rfl | rfl | rfl <;> decide
   have hal:=hA.len
   have h1:=O0 hA.mask h
   have h2:=O0 hB.mask h
   have hbi:wu a b i=(o9 (wm a) i && !o9 (wm b) i && (lG ((2 ^ i:Nat):Int) (dB a)).2):=rfl
   have hnx:wu a b i=false→∀ k,k<i+1→wu a b k=false:=fun h k hk=>by
    rcases Nat.lt_or_ge k i with g | g
    · exact hb k g
    · have:k=i:=by omega
      rw [this];exact h
   have hno:wu a b i=true→yE a b=false:=fun h=>by
    have:(List.range 5).any (wu a b)=true:=List.any_eq_true.2 ⟨i,List.mem_range.2 (by omega),h⟩
    simp [yE,this]
   generalize ((2 ^ i:Nat):Int)=pw at *
   cases hla:o9 (wm a) i with
   | false=>
    rw [hla,if_neg (by decide)] at h1
    have hx:=hnx (by rw [hbi,hla];rfl)
    simp(maxSteps:=400000)only[↓ax,ay,BEq.rfl,reduceIte,reduceCtorEq,Nat.reduceLT,reduceAdd,reduceSub,reduceMul,Nat.reduceBEq,reduceLeDiff,reduceToNat,reduceLE,hQ,hlt,hn,hn',hmn,hmn',h1,h2,↓h3,↓Ze]
    exact ⟨⟨by omega,by omega⟩,m-1,by omega,i+1,by omega,hx,rfl⟩
   | true=>
    rw [hla,if_pos rfl] at h1
    cases hlb:o9 (wm b) i with
    | true=>
     rw [hlb,if_pos rfl] at h2
     have hx:=hnx (by rw [hbi,hla,hlb];rfl)
     simp(maxSteps:=400000)only[↓ax,ay,BEq.rfl,reduceIte,reduceCtorEq,Nat.reduceLT,reduceAdd,reduceSub,reduceMul,Nat.reduceBEq,reduceLeDiff,reduceToNat,reduceLE,hQ,hlt,hn,hn',hmn,hmn',h1,h2,↓h3,↓Ze,hp0]
     exact ⟨⟨by omega,by omega⟩,m-1,by omega,i+1,by omega,hx,rfl⟩
    | false=>
     rw [hlb,if_neg (by decide)] at h2
     cases hle:(lG pw (dB a)).2 with
     | true=>
      have hr:=hno (by rw [hbi,hla,hlb,hle];rfl)
      simp(maxSteps:=400000)only[↓ax,ay,BEq.rfl,reduceIte,reduceCtorEq,Nat.reduceLT,reduceAdd,reduceSub,reduceMul,Nat.reduceBEq,reduceLeDiff,reduceToNat,reduceLE,hQ,hlt,hn,hn',hmn,hmn',h1,h2,↓h3,↓Ze,hp0,↓p8,jU,hle,bf,bI,bJ,hr]
      exact ⟨hp1,by omega,fun x hx=>(hA.ok x hx).1,fun x hx=>(hA.ok x hx).2.1⟩
     | false=>
      have hx:=hnx (by rw [hbi,hla,hlb,hle];rfl)
      simp(maxSteps:=400000)only[↓ax,ay,BEq.rfl,reduceIte,reduceCtorEq,Nat.reduceLT,reduceAdd,reduceSub,reduceMul,Nat.reduceBEq,reduceLeDiff,reduceToNat,reduceLE,hQ,hlt,hn,hn',hmn,hmn',h1,h2,↓h3,↓Ze,hp0,↓p8,jU,hle,bf,bI,bJ]
      exact ⟨hp1,by omega,fun x hx=>(hA.ok x hx).1,fun x hx=>(hA.ok x hx).2.1,⟨by omega,by omega⟩,m-1,by omega,i+1,by omega,hx,rfl⟩
 · have hlt:((i:Int)<5)=False:=eq_false (by omega)
   unfold scO xQ
   simp(maxSteps:=400000)only[↓ax,ay,BEq.rfl,reduceIte,reduceCtorEq,Nat.reduceLT,reduceAdd,reduceSub,reduceMul,Nat.reduceBEq,reduceLeDiff,reduceToNat,reduceLE,hQ,hlt]
   refine aT _ (Weak.freeze 1 0 (Nat.zero_le _) _) ?_
   have hS:yE a b=!(dB b).any (wo a (dB a)):=by
    have:(List.range 5).any (wu a b)=false:=by
     rw [List.any_eq_false]
     intro k hk
     have:=hb k (by have:=List.mem_range.1 hk;omega)
     rw [this];simp
    simp [yE,this]
   simp(maxSteps:=400000)only[↓ax,ay,BEq.rfl,reduceIte,reduceCtorEq,Nat.reduceLT,reduceAdd,reduceSub,reduceMul,Nat.reduceBEq,reduceLeDiff,reduceToNat,reduceLE,hQ,↓p_,↓um]
   exact ⟨by omega,Eg,rfl,rfl,by have:=hB.len;omega,hA,hB.ok,hS⟩
def xq:dN:=fun args objs K=>match args with
 | [a0,a1]=>gu aA a0 (HK.mk:HK fun a=>gu aA a1 (HK.mk:HK fun b=>(Y.One a)∧(Y.One b)∧(a.length≤100000)∧(b.length≤100000)∧(zO a (dB a))∧(zO b (dB b))∧K (.bool (yE a b)) objs 0))
 | _=>False
theorem LQ:aD Tryz.prog 57 (xq):=by
 intro args objs K h
 unfold xq at h
 split at h
 · rename_i a0 a1
   obtain ⟨a,rfl,b,rfl,h1,h2,h3,h4,h5,h6,hk⟩:=h
   exact ⟨_,_,_,.pure _ rfl (O1 a b h1 h2 h3 h4 h5 h6),hk⟩
 · exact h.elim
end Lp
namespace Lp
open Go Go.Proofs
open Nat (reduceAdd reduceLeDiff reduceMul reduceSub)
def uo (a b:Int):PV:=.agg [.int .i64 a,.int .i64 b]
theorem acM (a b c d:Int):zU Tryz.prog 55 [.int .i64 a,.int .i64 b] [.int .i64 c,.int .i64 d]:=by
 have u3:Tryz.prog.underlying 3=some (.int .i64):=by kernel_rfl
 have u5:Tryz.prog.underlying 55=some (.array 2 3):=by kernel_rfl
 have hc:Tryz.prog.cellsOf 3=1:=by kernel_rfl
 refine ⟨by kernel_rfl,fun w ok vs us r hr h1 h2=>?_⟩
 obtain ⟨inf,aay,_⟩:=(hD 3).info (by simp [bL])
 have e:Op.equal 55 (.agg ⟨vs⟩) (.agg ⟨us⟩)=Op.equalIn (9999+1) 55 (.agg ⟨vs⟩) (.agg ⟨us⟩):=rfl
 obtain ⟨v0,v1,rfl,x0,x1⟩:=Qg h1
 obtain ⟨y0,y1,rfl,z0,z1⟩:=Qg h2
 cases x0;cases x1;cases z0;cases z1
 have pt:∀ (p q:Value) (o:Nat) (v:Value),(#[p,q]:Array Value)[o]?=some v→(part 3 #[p,q] o).run Tryz.prog w=.ok v w:=fun p q o v h=>vG u3 (.inl ⟨_,rfl⟩) h
 simp only [xB,X4,Bool.and_true,Option.some.injEq,if_true] at hr
 subst hr
 rw [e,run_equalIn_array w 9999 _ _ u5 aay,hc]
 have r2:List.range 2=[0,1]:=rfl
 have e1:(Op.equalIn 9999 3 (.int .i64 a) (.int .i64 c)).run Tryz.prog w=.ok (a==c) w:=run_equalIn_int w 9998 3 .i64 .i64 a c u3
 have e2:(Op.equalIn 9999 3 (.int .i64 b) (.int .i64 d)).run Tryz.prog w=.ok (b==d) w:=run_equalIn_int w 9998 3 .i64 .i64 b d u3
 have i0:∀ p q:Value,(#[p,q]:Array Value)[0]=p:=fun _ _=>rfl
 simp only [r2,Op.eqItems,Sem.run_bind,Nat.zero_mul,Nat.one_mul,pt _ _ 0 _ rfl,pt _ _ 1 _ rfl,Result.andThen_ok,i0,e1]
 by_cases h1:a=c
 · subst h1
   simp only [BEq.rfl,Bool.not_true,Bool.false_eq_true,if_false,Sem.run_bind,pt _ _ 1 _ rfl,Result.andThen_ok,decide_true,Bool.true_and]
   simp only [List.getElem_toArray,List.getElem_cons_succ,List.getElem_cons_zero,e2,Result.andThen_ok]
   by_cases h2:b=d <;> simp [h2]
 · simp [h1]
theorem aaq (objs:List Obj) (K:KT) :
  (∀ a b,bD D 55 [(0,.int .i64 a),(1,.int .i64 b)] objs K=K (uo a b) objs 0):=by
 have z:aF (D 55)=uo 0 0:=by kernel_rfl
 have a:(D 55).agg=true:=by kernel_rfl
 simp only [bL] at z a
 intro x y
 simp [bD,kR,a,z,bL,lJ,uo,PV.isAgg,pE,PV.cells,PV.storable,PV.kW,PV.pure]
theorem eqK (ti:aB) (a b c d:Int) (K:PV→Prop):nN Tryz.prog ti 55 .eql (uo a b) (uo c d) K=K (.bool (decide (a=c) && decide (b=d))):=by
 show (zU Tryz.prog 55 [.int .i64 a,.int .i64 b] [.int .i64 c,.int .i64 d]∧∃ r,xB [.int .i64 a,.int .i64 b] [.int .i64 c,.int .i64 d]=some r∧K (.bool r))=_
 simp [acM,xB,X4]
theorem zK:PV.uL (.agg ⟨[.int .i64 0,.int .i64 0]⟩)=uo 0 0:=rfl
theorem pK (a b x y:Int):(uo a b).putCells 0 [.int .i64 x,.int .i64 y]=uo x y:=rfl
theorem pS (s:Nat) (xs:List PV) (q:Option Bool) (x:PV):(PV.sl s xs q).putCells 0 [x]=x:=rfl
theorem XZ (X:List aK) (rest:List Obj):fJ 1 0 (⟨54,1,[pQ X],true,1⟩::rest) (.bM 0 1 0 0)=.addr (pQ X):=rfl
theorem X0 (o:Obj) (X:List aK) (rest:List Obj):fJ 1 0 (o::⟨54,1,[pQ X],true,1⟩::rest) (.bM 1 1 0 0)=.addr (pQ X):=rfl
theorem acN (a b:Int) (rest:List Obj):fJ 1 0 (⟨55,2,[uo a b],true,1⟩::rest) (.bM 0 1 0 0)=.addr (uo a b):=rfl
theorem kC (a b:Int):(uo a b).cells=[.int .i64 a,.int .i64 b]∧(uo a b).isAgg=true∧(uo a b).pure=true∧(∀ d m O,fJ d m O (uo a b)=uo a b)∧(∀ d m O,gG d m O (uo a b)=uo a b):=⟨rfl,rfl,rfl,fun _ _ _=>rfl,fun _ _ _=>rfl⟩
theorem Vg (a b k j:Int):ai Tryz.prog 56 [.int .i64 a,.int .i64 b,.addr (uo k j)] [] (.bool (decide (k=a) && decide (j=b))) []:=by
 refine LF.bE (T:=aU Tryz.prog []) 0 hD (aj ah) aY (by decide) fun Q hQ=>?_
 (conv=>arg 4;cbv);simp(maxSteps:=400000)only[↓ax,ay,BEq.rfl,reduceIte,reduceCtorEq,Nat.reduceLT,reduceAdd,reduceSub,reduceMul,Nat.reduceBEq,reduceLeDiff,Int.reduceToNat,Int.reduceLE,hQ,↓aaq,↓eqK,kC,List.length_cons,List.length_nil]
def EK (k j:Int):dN:=fun args objs K=>match args with
 | [.int .i64 a,.int .i64 b,c]=>c=.addr (uo k j)∧K (.bool (decide (k=a) && decide (j=b))) objs 0
 | _=>False
theorem Rx (k j:Int):aD Tryz.prog 56 (EK k j):=by
 intro args objs K h
 unfold EK at h
 split at h
 · rename_i a b c
   obtain ⟨rfl,hk⟩:=h
   exact ⟨_,_,_,.pure _ rfl (Vg a b k j),hk⟩
 · exact h.elim
theorem LU (a b:aK) (hoa:Y.One a) (Eg:Y.One b) (hla:a.length≤100000) (hlb:b.length≤100000) (hA:zO a (dB a)) (hB:zO b (dB b)) (ka:Y.kindOf a=1) (kb:Y.kindOf b=1) :
  ai Tryz.prog 20 [aA a,aA b] [] (.bool (yE a b)) []:=by
 refine Rs.bE (T:=aU Tryz.prog [(52,ug),(57,xq),(56,(EK 1 1))]) 1 hD (aj (af Ik (af LQ (af (Rx 1 1) ah)))) aY (by decide) fun Q hQ=>?_
 obtain ⟨n,hn,hkn⟩:∃ n,a[0]?=some n∧n.kind=1:=by
  cases a with
  | nil=>exact absurd rfl hoa.ne
  | cons n r=>exact ⟨n,rfl,ka⟩
 obtain ⟨n',hn',hkn'⟩:∃ n,b[0]?=some n∧n.kind=1:=by
  cases b with
  | nil=>exact absurd rfl Eg.ne
  | cons n r=>exact ⟨n,rfl,kb⟩
 (conv=>arg 4;cbv);simp(maxSteps:=400000)only[↓ax,ay,BEq.rfl,reduceIte,reduceCtorEq,Nat.reduceLT,reduceAdd,reduceSub,reduceMul,Nat.reduceBEq,reduceLeDiff,Int.reduceToNat,Int.reduceLE,hQ,↓ug,pS]
 refine ⟨hoa,by omega,Eg,by omega,?_⟩
 refine aT _ (Weak.freeze 1 0 (Nat.zero_le _) _) ?_
 simp(maxSteps:=400000)only[↓ax,ay,BEq.rfl,reduceIte,reduceCtorEq,Nat.reduceLT,reduceAdd,reduceSub,reduceMul,Nat.reduceBEq,reduceLeDiff,Int.reduceToNat,Int.reduceLE,hQ,hn,hn',hkn,hkn',↓aaq,XZ,X0,zK,pK,kC]
 refine ⟨by decide,?_⟩
 refine aT _ (Weak.freeze 1 0 (Nat.zero_le _) _) ?_
 simp(maxSteps:=400000)only[↓ax,ay,BEq.rfl,reduceIte,reduceCtorEq,Nat.reduceLT,reduceAdd,reduceSub,reduceMul,Nat.reduceBEq,reduceLeDiff,Int.reduceToNat,Int.reduceLE,hQ,acN,XZ,X0,↓EK,↓xq]
 exact ⟨hoa,Eg,hla,hlb,hA,hB⟩
end Lp
namespace Lp
open Go Go.Proofs
def abl:Nd:=⟨3,0,[],[50],false,0⟩
def Zf:aK:=[⟨1,0,[],[],8,aW⟩]
def Zg:aK:=[⟨1,1,[],[],8,aW⟩,⟨9,0,[],[],4,abl⟩]
def tyU:aK:=[⟨1,1,[],[],24,aW⟩,⟨9,0,[],[],1,abl⟩]
def acO:Stp:=⟨false,[97],0⟩
theorem O3:eO Zf=true∧eO Zg=true∧eO tyU=true∧xS Zf [] ⟨4,abl⟩=(Zg,0)∧xS Zg [acO] ⟨0,aW⟩=([],6):=by decide +kernel
theorem Vh:yE Zg tyU=true∧yE tyU Zg=false:=by decide +kernel
def abm (x:PV) (p:List Stp):Prop:=x=dF p∨(x=.sl 0 [] (some true)∧p=[])
theorem abn (a:List Stp) (P:List Stp→Prop):(∃ l,abm (dF a) l∧P l)=P a:=by
 apply propext
 constructor
 · rintro ⟨l,h | ⟨h,_⟩,hp⟩
   · rw [rG _ _ h];exact hp
   · simp [dF] at h
 · exact fun h=>⟨a,.inl rfl,h⟩
theorem abo (P:List Stp→Prop):(∃ l,abm (.sl 0 [] (some true)) l∧P l)=P []:=by
 apply propext
 constructor
 · rintro ⟨l,h | ⟨_,rfl⟩,hp⟩
   · simp [dF] at h
   · exact hp
 · exact fun h=>⟨[],.inr ⟨rfl,rfl⟩,h⟩
def uq:dN:=fun args objs K=>match args with
 | [a,x,b]=>gu aA a (HK.mk:HK fun t=>∃ p,abm x p∧gu bP b (HK.mk:HK fun c=>t.length≤100000∧Y.One t∧p.length≤1000000∧JG t p∧K (.bT [aA (xS t p c).1,.int .i64 (xS t p c).2]) objs 0))
 | _=>False
theorem IA:aD Tryz.prog 11 uq:=by
 intro args objs K h
 unfold uq at h
 split at h
 · obtain ⟨t,rfl,p,hx,c,rfl,h1,h2,h3,h4,hk⟩:=h
   have hs:=(DJ t p c h1 h2 h3 h4).res (v_ t p c)
   rcases hx with rfl | ⟨rfl,rfl⟩
   · exact ⟨_,_,_,.pure _ rfl hs,hk⟩
   · refine ⟨_,_,_,.pure _ rfl (hs.arg rfl fun i p q hp hq=>?_),hk⟩
     match i with
     | 0=>cases hp;cases hq;exact .refl _
     | 1=>cases hp;cases hq;exact rE 0 3
     | 2=>cases hp;cases hq;exact .refl _
     | _+3=>simp at hp
 · exact h.elim
def uw:dN:=fun args objs K=>match args with
 | [a0,a1]=>gu aA a0 (HK.mk:HK fun a=>gu aA a1 (HK.mk:HK fun b=>(Y.One a)∧(Y.One b)∧(a.length≤100000)∧(b.length≤100000)∧(zO a (dB a))∧(zO b (dB b))∧(Y.kindOf a=1)∧(Y.kindOf b=1)∧K (.bool (yE a b)) objs 0))
 | _=>False
theorem IB:aD Tryz.prog 20 (uw):=by
 intro args objs K h
 unfold uw at h
 split at h
 · rename_i a0 a1
   obtain ⟨a,rfl,b,rfl,h1,h2,h3,h4,h5,h6,h7,h8,hk⟩:=h
   exact ⟨_,_,_,.pure _ rfl (LU a b h1 h2 h3 h4 h5 h6 h7 h8),hk⟩
 · exact h.elim
theorem stB (objs:List Obj) (K:KT):(∀ nm,bD D 61 [(1,.str nm)] objs K=K (encS ⟨false,nm,0⟩) objs 0):=by
 have z:aF (D 61)=encS ⟨false,[],0⟩:=by kernel_rfl
 have a:(D 61).agg=true:=by kernel_rfl
 simp only [bL] at z a
 intro nm
 simp [bD,kR,a,z,bL,lJ,encS,PV.isAgg,pE,PV.cells,PV.storable,PV.kW,PV.pure]
theorem adE (objs:List Obj) (K:KT):bD D 29 [] objs K=K (bP ⟨0,aW⟩) objs 0:=by
 have z:aF (D 29)=bP ⟨0,aW⟩:=by kernel_rfl
 have a:(D 29).agg=true:=by kernel_rfl
 simp only [bL] at z a
 simp [bD,kR,a,z,bL,lJ,bP,av,aW,PV.isAgg,pE,PV.cells,PV.storable,PV.kW,PV.pure]
theorem stZ:PV.uL (.agg ⟨[.bool false,.string ⟨⟨[]⟩⟩,.int .i64 0]⟩)=encS ⟨false,[],0⟩:=rfl
theorem stW (a:Stp) (b:Bool) (nm:List UInt8) (n:Int):(encS a).putCells 0 [.bool b,.str nm,.int .i64 n]=encS ⟨b,nm,n⟩:=rfl
theorem sD {t:aK}(h:ES bB fA t) (p:List Stp):JG t p:=fun i x _ hx=>by
 obtain ⟨_,_,h1,_⟩:=Y.qJ h.one hx
 exact ⟨h1,CS h.good hx⟩
theorem SH {t:aK}(h:ES bB fA t) (hk:Y.kindOf t=1) (hl:t.length≤100000) (hs:∀ n ∈ t,n.c.s.length≤500000):zO t (dB t):=by
 cases t with
 | nil=>exact absurd rfl h.one.ne
 | cons n r=>
  have hk':n.kind=1:=hk
  obtain ⟨h1,h2,h3,h4,h5⟩:=O9 h hk'
  simp only [List.length_cons] at hl
  refine ⟨by simp,by simp only [List.length_cons];omega,⟨by show 0≤n.n;omega,h5⟩,by rw [h1,List.length_map];omega,fun a ha=>?_⟩
  rw [h1] at ha
  obtain ⟨x,hx,rfl⟩:=List.mem_map.1 ha
  have hr:=(h3 x hx).1
  have hc:=hs x (List.mem_cons_of_mem _ hx)
  simp only [gY,Bool.and_eq_true,decide_eq_true_eq] at hr
  exact ⟨⟨hr.2,by show x.c.s.length≤1000000;omega⟩,hc,hr.1.1,hr.1.2⟩
theorem LV:ai Tryz.prog 10 [] [] (.bool true) []:=by
 refine zN.bE (T:=aU Tryz.prog [(11,uq),(20,uw),(13,m_)]) 0 hD (aj (af IA (af IB (af BJ ah)))) aY (by decide) fun Q hQ=>?_
 obtain ⟨r0,rA,rU,f1,f2⟩:=O3
 have t0:=rV r0
 have tA:=rV rA
 have tU:=rV rU
 have f1':xS Zf [] ⟨4,⟨3,0,[],[50],false,0⟩⟩=(Zg,0):=f1
 have d1:decide (Zg=Zg)=true:=decide_eq_true rfl
 obtain ⟨s1,s2⟩:=Vh
 have e0:([⟨1,0,[],[],8,aW⟩]:aK)=Zf:=rfl
 have eA:([⟨1,1,[],[],8,aW⟩,⟨9,0,[],[],4,⟨3,0,[],[50],false,0⟩⟩]:aK)=Zg:=rfl
 have eU:([⟨1,1,[],[],24,aW⟩,⟨9,0,[],[],1,⟨3,0,[],[50],false,0⟩⟩]:aK)=tyU:=rfl
 have eS:(⟨false,[97],0⟩:Stp)=acO:=rfl
 (conv=>arg 4;cbv);simp(maxSteps:=400000)only[↓ax,ay,BEq.rfl,reduceIte,reduceCtorEq,Nat.reduceLT,Nat.reduceAdd,Nat.reduceSub,Nat.reduceMul,Nat.reduceBEq,Nat.reduceLeDiff,Int.reduceToNat,Int.reduceLE,hQ,qL,iL,iM,zH,bY,dS,atB,↓stB,↓adE,bI,bJ,↓uq,abn,abo,e0,eA,eU,eS,f1',f2,bf,stZ,stW,↓uw,s1,s2,↓m_,d1]
 have sA:=SH tA rfl (by decide) (by decide)
 have sU:=SH tU rfl (by decide) (by decide)
 exact ⟨by decide,t0.one,sD t0 _,by decide,tA.one,sD tA _,tA.one,tU.one,by decide,by decide,sA,sU,rfl,rfl,tU.one,tA.one,by decide,by decide,sU,sA,rfl,rfl,by decide,by decide⟩
def zP:dN:=fun args objs K=>args=[]∧K (.bool true) objs 0
theorem IC:aD Tryz.prog 10 zP:=by
 rintro args objs K ⟨rfl,hk⟩
 exact ⟨_,_,_,.pure _ rfl LV,hk⟩
theorem j_ (objs:List Obj) (K:KT):zP [] objs K=K (.bool true) objs 0:=propext ⟨fun h=>h.2,fun h=>⟨rfl,h⟩⟩
end Lp
namespace Lp
open Go Go.Proofs
open Nat (reduceAdd reduceLeDiff reduceMul reduceSub)
open Int (reduceLE reduceToNat)
theorem atF (a:f_):PV.agg [.int .i64 a.n,.int .i64 a.c.kind,.int .i64 a.c.many,.str a.c.name,.str a.c.s,.bool a.c.neg,.int .i64 a.c.e]=bP a:=rfl
theorem Vi {t:aK}{k:Nat}(hk:k≤100000) (hr:SE t) (h:Gt t k=true):kD t:=by
 simp only [Gt,Bool.and_eq_true,decide_eq_true_eq,List.all_eq_true] at h
 obtain ⟨⟨h1,h2⟩,_⟩:=h
 refine ⟨by omega,fun n hn=>?_⟩
 have:=h2 n hn
 simp only [jv,Bool.and_eq_true,decide_eq_true_eq] at this
 exact ⟨by omega,by omega,⟨by omega,hr.cnm n hn⟩⟩
theorem Zh {t:aK}{i:Nat}{a:f_}{n:eT}(h:n ∈ kN t i a):n=kF a∨∃ m ∈ t,n.s=m.s∧n.name=m.name∧n.c=m.c:=by
 unfold kN at h
 split at h
 · rename_i x hx
   rcases List.mem_append.1 h with h | h
   · exact .inr ⟨n,List.mem_of_mem_take h,rfl,rfl,rfl⟩
   · rcases List.mem_cons.1 h with rfl | h
     · exact .inr ⟨x,List.mem_of_getElem? hx,rfl,rfl,rfl⟩
     · rcases List.mem_append.1 h with h | h
       · exact .inr ⟨n,List.mem_of_mem_drop (List.mem_of_mem_take h),rfl,rfl,rfl⟩
       · rcases List.mem_cons.1 h with rfl | h
         · exact .inl rfl
         · exact .inr ⟨n,List.mem_of_mem_drop h,rfl,rfl,rfl⟩
 · exact .inr ⟨n,h,rfl,rfl,rfl⟩
theorem Vj {t:aK}{i:Nat}{a:f_}{x:eT}(hs:kD t) (hx:t[i]?=some x) (hm:i+1+x.many.toNat≤t.length) (hl:t.length≤100000) (ha:oP a.c):kD (kN t i a):=by
 refine ⟨by rw [OM hx hm];omega,fun n hn=>?_⟩
 rcases Zh hn with rfl | ⟨m,hm,h1,h2,h3⟩
 · exact ⟨by simp [kF],by simp [kF],ha⟩
 · rw [h1,h2,h3];exact hs.txt m hm
theorem CU (t:aK) (p:List Stp) (a:f_) (hr:SE t) (hp:Gx p) (ha:oP a.c):ai Tryz.prog 3 [aA t,dF p,bP a] [] (.bool true) []:=by
 refine qK.bE (T:=aU Tryz.prog [(10,zP),(7,mD),(8,jV),(9,jE),(11,sw),(12,nX),(13,m_),(14,jT)]) 0 hD (aj (af IC (af OE (af Iq (af Bj (af LH (af Gz (af BJ (af yC ah))))))))) aY (by decide) fun Q hQ=>?_
 have t40:Int.toNat 40=40:=rfl
 cases hf:Gt t 40 with
 | false=>
  (conv=>arg 4;cbv);simp(maxSteps:=400000)only[↓ax,ay,BEq.rfl,reduceIte,reduceCtorEq,Nat.reduceLT,reduceAdd,reduceSub,reduceMul,Nat.reduceBEq,reduceLeDiff,reduceToNat,reduceLE,hQ,↓j_,↓mD,t40,hf]
  exact ⟨hr.len,hr.txt,hr.cnm⟩
 | true=>
  obtain ⟨hw,hl⟩:=abb (by decide) hf
  have hst:=Vi (by decide) hr hf
  cases hpr:uh p with
  | false=>
   (conv=>arg 4;cbv);simp(maxSteps:=400000)only[↓ax,ay,BEq.rfl,reduceIte,reduceCtorEq,Nat.reduceLT,reduceAdd,reduceSub,reduceMul,Nat.reduceBEq,reduceLeDiff,reduceToNat,reduceLE,hQ,↓j_,↓mD,t40,hf,↓jV,hpr]
   exact ⟨hr.len,hr.txt,hr.cnm,hp⟩
  | true=>
   cases har:gY a with
   | false=>
    (conv=>arg 4;cbv);simp(maxSteps:=400000)only[↓ax,ay,BEq.rfl,reduceIte,reduceCtorEq,Nat.reduceLT,reduceAdd,reduceSub,reduceMul,Nat.reduceBEq,reduceLeDiff,reduceToNat,reduceLE,hQ,↓j_,↓mD,t40,hf,↓jV,hpr,atF,↓jE,har]
    exact ⟨hr.len,hr.txt,hr.cnm,hp,ha⟩
   | true=>
    have hpl:p.length≤20:=by
     simp only [uh,Bool.and_eq_true,decide_eq_true_eq] at hpr
     exact hpr.2
    by_cases hc:(100:Int)<a.c.s.length
    · have hc':=eq_true hc
      (conv=>arg 4;cbv);simp(maxSteps:=400000)only[↓ax,ay,BEq.rfl,reduceIte,reduceCtorEq,Nat.reduceLT,reduceAdd,reduceSub,reduceMul,Nat.reduceBEq,reduceLeDiff,reduceToNat,reduceLE,hQ,↓j_,↓mD,t40,hf,↓jV,hpr,atF,↓jE,har,hc']
      exact ⟨hr.len,hr.txt,hr.cnm,hp,ha⟩
    · have hc':=eq_false hc
      cases hlf:eF p t with
      | none=>
       have hres:xS t p a=([],6):=by simp [xS,hlf]
       have d1:decide (([]:aK)=[])=true:=rfl
       (conv=>arg 4;cbv);simp(maxSteps:=400000)only[↓ax,ay,BEq.rfl,reduceIte,reduceCtorEq,Nat.reduceLT,reduceAdd,reduceSub,reduceMul,Nat.reduceBEq,reduceLeDiff,reduceToNat,reduceLE,hQ,↓j_,↓mD,t40,hf,↓jV,hpr,atF,↓jE,har,hc',↓sw,↓nX,↓m_,↓jT,bf,hres,d1]
       exact ⟨hr.len,hr.txt,hr.cnm,hp,ha,by omega,hw.rt.one,by omega,sD hw.rt p,hst,by omega,hw.rt.one,by omega,sD hw.rt p,fun h=>absurd h (by decide)⟩
      | some i=>
       have hres:xS t p a=(kN t i a,0):=by simp [xS,hlf]
       have d1:decide (kN t i a=kN t i a)=true:=decide_eq_true rfl
       have hrt:=UQ (abg har hw.rt hlf)
       (conv=>arg 4;cbv);simp(maxSteps:=400000)only[↓ax,ay,BEq.rfl,reduceIte,reduceCtorEq,Nat.reduceLT,reduceAdd,reduceSub,reduceMul,Nat.reduceBEq,reduceLeDiff,reduceToNat,reduceLE,hQ,↓j_,↓mD,t40,hf,↓jV,hpr,atF,↓jE,har,hc',↓sw,↓nX,↓m_,↓jT,bf,hres,d1,hrt]
       obtain ⟨x,hx,_⟩:=sj hlf
       have hgm:=CS hw.rt.good hx
       have hil:=OM (a:=a) hx hgm
       have his:=Vj (a:=a) hst hx hgm (by omega) ha
       exact ⟨hr.len,hr.txt,hr.cnm,hp,ha,by omega,hw.rt.one,by omega,sD hw.rt p,hst,by omega,hw.rt.one,by omega,sD hw.rt p,by omega,by omega,his⟩
end Lp
namespace Lp
open Go Go.Proofs
theorem abp:∃ fs:Array Field,Tryz.prog.underlying 61=some (.struct fs)∧fs.toList.map (fun f=>(f.offset,f.type))=[(0,4),(1,9),(2,3)]:=
 ⟨Tryz.prog.fieldsOf 61,by kernel_rfl,by kernel_rfl⟩
instance :Inhabited Stp:=⟨⟨false,[],0⟩⟩
theorem Zi:Rd Tryz.prog 61 encS (fun s:Stp=>s.name.length≤reachBytes):=by
 intro H eh w fuel cs x h hw
 obtain ⟨fs,ht,hfs⟩:=abp
 obtain ⟨hl,hp⟩:=oL ht h hw
 rw [hfs] at hp
 have hc:Tryz.prog.cellsOf 61=3:=by kernel_rfl
 rw [hc] at hl
 match cs,hl with
 | [v0,v1,v2],_=>
  obtain ⟨n0,y0,a0,b0⟩:=hp 0 0 4 rfl
  obtain ⟨n1,y1,a1,b1⟩:=hp 1 1 9 rfl
  obtain ⟨n2,y2,a2,b2⟩:=hp 2 2 3 rfl
  rw [one_cell XD (v:=v0) rfl] at a0
  rw [one_cell vX (v:=v1) rfl] at a1
  rw [one_cell DF (v:=v2) rfl] at a2
  obtain ⟨b,g0,r0⟩:=Rd.bool XC eh w n0 _ _ a0 b0
  obtain ⟨nm,g1,r1⟩:=Rd.str vW eh w n1 _ _ a1 b1
  obtain ⟨n,g2,r2⟩:=Rd.int DC eh w n2 _ _ a2 b2
  refine ⟨⟨b,nm,n⟩,g1,?_⟩
  exact cZ (r0.2 0 _ _ rfl rfl) (cZ (r1.2 0 _ _ rfl rfl) (cZ (r2.2 0 _ _ rfl rfl) Gu))
theorem abq:Tryz.prog.underlying 25=some (.slice 61):=by kernel_rfl
theorem acR:Rd Tryz.prog 25 dF Gx:=by
 intro H eh w fuel cs x h hw
 obtain ⟨v,⟨h1,h2⟩,h3⟩:=Rd.slice (sz:=3) abq Zi (by kernel_rfl) (by decide) (fun _=>rfl) eh w fuel cs x h hw
 have hb:Tryz.prog.bytesOf 61=32:=by kernel_rfl
 rw [hb,reachBytes] at h1
 refine ⟨v,⟨by omega,fun n hn=>?_⟩,h3⟩
 have g:=h2 n hn
 rw [reachBytes] at g
 omega
section
variable {H:Type}{eh:TypeId×Value→H}{w:World}{base:Nat}{v:Value}{d:DataW H}{p:List MemPlace}
theorem adG (hv:Value.okWide Tryz.prog w .any base 29 v) (h:DataW.Trod eh Tryz.prog w 0 (fun _=>true) true 29 v d p) (hw:∀ n ∈ DataW.weights Tryz.prog 29 d,n≤reachBytes):∃ a:f_,oP a.c∧dA w (fun _=>True) (bP a) v:=by
 obtain ⟨a,g,r⟩:=Va (by obtain ⟨fs,h,_⟩:=XF;exact ⟨fs,h⟩) Y8 (fun _=>rfl) hv h hw
 exact ⟨a,g.c.sm,r⟩
end
theorem Vk (t:aK) (p:List Stp) (a:f_) (hr:SE t) (hp:Gx p) (ha:oP a.c):ai Tryz.prog 3 [aA t,dF p,bP a] [] (.bool true) []:=CU t p a hr hp ha
end Lp
namespace Lp
open Go
theorem gP {a b:Bool}(ha:a=true) (hb:b=true):(a && b)=true:=by rw [ha,hb];rfl
theorem aby {P:Program}{f:FuncId}{fn:Func}{s:ChangeSpec}{c:OpenClaim}
  (h0:(c.wf (OpenSpec.ofChange s))=true)
  (h1:(laidOutB P)=true)
  (h2:(mapsRowed P)=true)
  (h3:(fn.params.all (P.readableRec ·))=true)
  (h4:(namedTie P c.named s.vars)=true)
  (h5:((c.stops==[]))=true)
  (h6:((P.stops==[]))=true)
  (h7:((c.knobs==[]))=true)
  (h8:((P.stopKnobs==[]))=true)
  (h9:((c.inPlace==P.inPlace f))=true)
  (h10:((c.unfollowed==P.unfollowed f))=true)
  (h11:((c.recurses==P.recurses f))=true)
  (h12:((c.named==P.varsNamed f))=true)
  (h13:((c.maps==(fn.params.toList++s.plain.varTypes P).any (P.mapsRec ·)))=true)
  (h14:((c.ifaces==(fn.params.toList++s.plain.varTypes P).any (P.ifacesRec ·)))=true)
  (h15:((c.mapsOut==P.mapsAmong fn.resultTypes.toList))=true)
  (h16:((c.loops==(fn.params.toList++s.plain.varTypes P).any (P.loopsFrom ·)))=true)
  (h17:((c.wideKeys==(fn.params.toList++s.plain.varTypes P++fn.resultTypes.toList).any (P.wideKeysFrom ·)))=true)
  (h18:(s.vars.all (P.varReadable ·))=true)
  (h19:(fn.resultTypes.all (fun t=>P.readableRec t && decide (t<P.types.size)))=true)
  (h20:((c.ifacesOut==fn.resultTypes.toList.any (P.ifacesRec ·)))=true)
  (h21:((c.loopsOut==fn.resultTypes.toList.any (P.loopsFrom ·)))=true)
  (h22:((c.plainKeys==P.plainKeys))=true)
  (h23:(c.shortTexts.isNone)=true)
  (h24:(P.stopsHeard)=true)
  (h25:(P.mayEnter)=true)
  (h26:((c.lifted==P.liftsFinal))=true)
  (h27:((P.make==some c.make))=true)
  (h28:((c.kinds==(if c.domain.isEmpty then [] else fn.params.toList.map fun t=>match P.underlying t with | some (.int k)=>some k | _=>none)))=true)
  (h29:((c.pinned==c.pinnedBy))=true)
  (h30:((c.veiled==(fn.params.toList++s.plain.varTypes P++fn.resultTypes.toList).any (P.veiledRec ·)))=true)
  (h31:(c.veiledFits P fn.params.toList (fn.params.toList++s.plain.varTypes P++fn.resultTypes.toList))=true):joinedFacts P f fn s c=true:=by
 unfold joinedFacts
 exact (gP (gP (gP (gP (gP (gP (gP (gP (gP (gP (gP (gP (gP (gP (gP (gP (gP (gP (gP (gP (gP (gP (gP (gP (gP (gP (gP (gP (gP (gP (gP h0 h1) h2) h3) h4) h5) h6) h7) h8) h9) h10) h11) h12) h13) h14) h15) h16) h17) h18) h19) h20) h21) h22) h23) h24) h25) h26) h27) h28) h29) h30) h31)
end Lp
