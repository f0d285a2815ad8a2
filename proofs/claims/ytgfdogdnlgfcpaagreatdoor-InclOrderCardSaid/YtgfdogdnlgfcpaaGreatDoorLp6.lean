/-
  Part 6 of what the statement rests on: LpTC2, LpTB4, LpTD1, LpTF0, LpTF2, LpTE1, LpTE2, LpTE3, LpTF3, LpTF4, LpTF5, LpE9, LpRd, LpMA1, LpTie, LpRdA, LpRdY, LpC11, LpC12, LpC13, LpH22, LpTG0, LpX2, LpD13, LpMf, LpX3, LpTG1, LpTG2, LpTG3, LpTG4, LpTG5, LpQA0, LpQB1, LpIns0, LpInsT, LpTF1, LpQB2, LpQB3, LpQB4, LpS0, LpQB5, LpQB6, LpQB7, LpQB8, LpQB9, LpRdR, LpC14, LpQC1, LpMapR, LpQC2, LpQS1, LpQC3, LpQC4, LpQC5, LpQC6, LpRdO, LpJn. No condition.
-/
import Derived.Test.YtgfdogdnlgfcpaaGreatDoorLp5
import Derived.Lib.LaidIn
import Derived.Lib.LaidU8T
import Derived.Deep.DeepHandedRow
import Derived.Deep.DeepWitnessRowRef
import Derived.ProofKit
import Derived.SizedLaws
import Derived.JoinedCond
import Derived.OpenShut
import Derived.Laws.CopyRow
import Derived.Shelf.Spec.SlicesInsertGrow
import Derived.Lib.Overlaps
import Derived.Lib.JoinLaws
import Derived.Lib.AppendZeros
import Derived.Laws.LoneSync
import Derived.ChangeKeysEq
import Derived.JoinedOf

set_option linter.all false
set_option maxHeartbeats 8000000
set_option maxRecDepth 100000
namespace Lp
open Go Go.Proofs Go.RowKit
open List (append_assoc append_nil getElem_mem length_append length_cons length_nil map_nil take_succ_cons take_zero)
open Nat (lt_or_ge reduceAdd reduceLeDiff reduceMul reduceSub)
open Int (reduceLE reduceToNat)
theorem WY {neg:Bool}{f:List UInt8}{e:Int}(h:¬ (dM neg f e).2=0):(dM neg f e).1=aN:=by
 unfold dM at h ⊢
 split
 · rfl
 · rename_i h1
   rw [if_neg h1] at h
   split
   · rename_i h2;rw [if_pos h2] at h;exact absurd rfl h
   · rename_i h2
     rw [if_neg h2] at h
     split
     · rfl
     · rename_i h3
       rw [if_neg h3] at h
       split
       · rfl
       · rename_i h4;rw [if_neg h4] at h;exact absurd rfl h
theorem H7 (n:Nd) (above:Bool) (hn:MN n):ai Tryz.prog 98 [aA n,.bool above] [] (dK n above) []:=by
 refine yN.Hy (T:=aR Tryz.prog [(112,mX),(109,kM),(110,Cb),(111,u7)]) 0 hD (aj (af PX (af MR (af Tk (af Tm ah))))) aZ (by decide) (by decide) fun Q hQ=>?_
 by_cases hs:n.s=[]
 · have hr:dK n above=.bZ [aA ⟨3,0,[],[49],!above,-1000⟩,.bool true]:=by simp [dK,dw,hs]
   (conv=>arg 4;cbv);simp(maxSteps:=400000)only[↓aX,aY,BEq.rfl,reduceIte,reduceCtorEq,Nat.reduceLT,reduceAdd,reduceSub,reduceMul,Nat.reduceBEq,reduceLeDiff,reduceToNat,reduceLE,hQ,hs,hr,bN,bO]
   repeat' (first | omega | exact rfl | refine ⟨?_,?_⟩)
 have hs':(n.s=[])=False:=eq_false hs
 have l1:=hn.len
 have l2:=hn.lo
 have l3:=hn.hi
 have hE:∀ T:Int,jU n above=max (T-100) (-1000)→(if (-1000:Int) > T-100 then (-1000:Int) else T-100)=jU n above:=fun T h=>by rw [h];split <;> omega
 have l4:(0:Int)<n.s.length:=by
  cases h:n.s with
  | nil=>exact absurd h hs
  | cons x r=>simp
 have hEb:-1000≤jU n above∧jU n above≤1000∧jU n above≤n.e:=by
  unfold jU
  split <;> omega
 generalize Uo:jU n above=E at *
 have EP:l8 n E=n.s++List.replicate (n.e-E).toNat 48:=rfl
 have hpl:(l8 n E).length≤3000:=by rw [EP,length_append,List.length_replicate];omega
 have hpf:fU (l8 n E)=true:=Es _ _ hn.fU (PS _)
 have hpt:0<(Lib.trimRightB (l8 n E) 48).length:=by rw [EP,Kw];exact hn.last hs
 have hul:=WW (l8 n E)
 have hdl:=Ky (l8 n E)
 have fin:∀ X:List UInt8,dK n above=.bZ [aA (dM n.neg X E).1,.bool (decide ((dM n.neg X E).2=0))]→(¬ (dM n.neg X E).2=0→dK n above=.bZ [aA ⟨0,0,[],[],false,0⟩,.bool false])∧((dM n.neg X E).2=0→dK n above=.bZ [aA (dM n.neg X E).1,.bool true]):=fun X h=>
  ⟨fun g=>by rw [h,WY g,decide_eq_false g];rfl,fun g=>by rw [h,decide_eq_true g]⟩
 by_cases hg:n.neg=above
 · have hg':(n.neg=above)=True:=eq_true hg
   have hr:dK n above=.bZ [aA (dM n.neg (oh (l8 n E)) E).1,.bool (decide ((dM n.neg (oh (l8 n E)) E).2=0))]:=by
    simp only [dK,dw,if_neg hs,if_pos hg,Uo]
   obtain ⟨f1,f2⟩:=fin _ hr
   generalize hX:oh (l8 n E)=X at *
   by_cases h49:n.s=[49]
   · have MO:(n.s=[49])=True:=eq_true h49
     have hEe:=hE (n.s.length+n.e-1) (by rw [← Uo];unfold jU;rw [if_pos ⟨hg,h49⟩])
     by_cases hM:(dM n.neg X E).2=0
     · have hM':=eq_true hM
       have hr2:=f2 hM
       (conv=>arg 4;cbv);simp(maxSteps:=400000)only[↓aX,aY,BEq.rfl,reduceIte,reduceCtorEq,Nat.reduceLT,reduceAdd,reduceSub,reduceMul,Nat.reduceBEq,reduceLeDiff,reduceToNat,reduceLE,hQ,↓mX,↓kM,↓u7,hs',hg',MO,bN,bO,cK,I8,I9,gZ,hEe,hX,dR,hM',hr2]
       repeat' (first | omega | exact hpf | exact hpt | exact rfl | refine ⟨?_,?_⟩)
     · have hM':=eq_false hM
       have hr2:=f1 hM
       (conv=>arg 4;cbv);simp(maxSteps:=400000)only[↓aX,aY,BEq.rfl,reduceIte,reduceCtorEq,Nat.reduceLT,reduceAdd,reduceSub,reduceMul,Nat.reduceBEq,reduceLeDiff,reduceToNat,reduceLE,hQ,↓mX,↓kM,↓u7,hs',hg',MO,bN,bO,cK,I8,I9,gZ,hEe,hX,dR,hM',hr2]
       repeat' (first | omega | exact hpf | exact hpt | exact rfl | refine ⟨?_,?_⟩)
   · have MO:(n.s=[49])=False:=eq_false h49
     have hEe:=hE (n.s.length+n.e) (by rw [← Uo];unfold jU;rw [if_neg fun h=>h49 h.2])
     by_cases hM:(dM n.neg X E).2=0
     · have hM':=eq_true hM
       have hr2:=f2 hM
       (conv=>arg 4;cbv);simp(maxSteps:=400000)only[↓aX,aY,BEq.rfl,reduceIte,reduceCtorEq,Nat.reduceLT,reduceAdd,reduceSub,reduceMul,Nat.reduceBEq,reduceLeDiff,reduceToNat,reduceLE,hQ,↓mX,↓kM,↓u7,hs',hg',MO,bN,bO,cK,I8,I9,gZ,hEe,hX,dR,hM',hr2]
       repeat' (first | omega | exact hpf | exact hpt | exact rfl | refine ⟨?_,?_⟩)
     · have hM':=eq_false hM
       have hr2:=f1 hM
       (conv=>arg 4;cbv);simp(maxSteps:=400000)only[↓aX,aY,BEq.rfl,reduceIte,reduceCtorEq,Nat.reduceLT,reduceAdd,reduceSub,reduceMul,Nat.reduceBEq,reduceLeDiff,reduceToNat,reduceLE,hQ,↓mX,↓kM,↓u7,hs',hg',MO,bN,bO,cK,I8,I9,gZ,hEe,hX,dR,hM',hr2]
       repeat' (first | omega | exact hpf | exact hpt | exact rfl | refine ⟨?_,?_⟩)
 · have hg':(n.neg=above)=False:=eq_false hg
   have hr:dK n above=.bZ [aA (dM n.neg (q9 (l8 n E)) E).1,.bool (decide ((dM n.neg (q9 (l8 n E)) E).2=0))]:=by
    rw [Tp]
    simp only [dK,dw,if_neg hs,if_neg hg,Uo]
   obtain ⟨f1,f2⟩:=fin _ hr
   have hEe:=hE (n.s.length+n.e) (by rw [← Uo];unfold jU;rw [if_neg fun h=>hg h.1])
   generalize hX:q9 (l8 n E)=X at *
   by_cases hM:(dM n.neg X E).2=0
   · have hM':=eq_true hM
     have hr2:=f2 hM
     (conv=>arg 4;cbv);simp(maxSteps:=400000)only[↓aX,aY,BEq.rfl,reduceIte,reduceCtorEq,Nat.reduceLT,reduceAdd,reduceSub,reduceMul,Nat.reduceBEq,reduceLeDiff,reduceToNat,reduceLE,hQ,↓mX,↓kM,↓Cb,hs',hg',bN,bO,cK,I8,I9,gZ,hEe,hX,dR,hM',hr2]
     repeat' (first | omega | exact hpf | exact hpt | exact rfl | refine ⟨?_,?_⟩)
   · have hM':=eq_false hM
     have hr2:=f1 hM
     (conv=>arg 4;cbv);simp(maxSteps:=400000)only[↓aX,aY,BEq.rfl,reduceIte,reduceCtorEq,Nat.reduceLT,reduceAdd,reduceSub,reduceMul,Nat.reduceBEq,reduceLeDiff,reduceToNat,reduceLE,hQ,↓mX,↓kM,↓Cb,hs',hg',bN,bO,cK,I8,I9,gZ,hEe,hX,dR,hM',hr2]
     repeat' (first | omega | exact hpf | exact hpt | exact rfl | refine ⟨?_,?_⟩)
def lJ:dD:=fun args objs K=>match args with
 | [a0,.bool above]=>fE aA a0 (HK.mk:HK fun n=>(MN n)∧K (dK n above) objs 0)
 | _=>False
theorem Jr:aB Tryz.prog 98 (lJ):=by
 intro args objs K h
 unfold lJ at h
 split at h
 · rename_i a0 above
   obtain ⟨n,rfl,h1,hk⟩:=h
   exact ⟨_,_,_,.pure _ rfl (H7 n above h1),hk⟩
 · exact h.elim
theorem UN (objs:List Obj) (K:KT):(∀ k,bF D 27 [(0,.int .i64 k)] objs K=K (aA ⟨k,0,[],[],false,0⟩) objs 0)∧(∀ k s,bF D 27 [(0,.int .i64 k),(3,.str s)] objs K=K (aA ⟨k,0,[],s,false,0⟩) objs 0):=by
 have z:aI (D 27)=aA ⟨0,0,[],[],false,0⟩:=by kernel_rfl
 have a:(D 27).agg=true:=by kernel_rfl
 simp only [bL] at z a
 refine ⟨fun k=>?_,fun k s=>?_⟩
 all_goals
  simp [bF,lG,a,z,bL,mg,aA,PV.isAgg,qb,PV.cells,PV.storable,PV.lS,PV.pure]
def ES:List Nd:=[⟨0,0,[],[],false,0⟩,⟨1,0,[],[],false,0⟩,⟨2,0,[],[],false,0⟩,⟨3,0,[],[],false,0⟩]
theorem TA (v:Vl) (ver:Nat) (t:TypeId) (rest:List Obj):eZ 1 0 (⟨t,6,v.map aA,true,ver⟩::rest) (.bG 0 ver)=aS v:=Wh v ver t rest
theorem xb {n i:Nat}(h:n≤1000000) (hi:i≤1000000):((n+1)*64≤140737488355328∧n≤9223372036854775806)∧((n+1+1)*64≤140737488355328∧n≤9223372036854775805)∧
  ((n+1+1+1)*64≤140737488355328∧n≤9223372036854775804)∧(-9223372036854775808≤(i:Int)+1∧(i:Int)+1≤9223372036854775807):=by omega
theorem MV (l:List iA) (hl:l.length≤100000) (hn:∀ a ∈ l,a.c.kind=3→MN a.c) (hs:∀ a ∈ l,a.c.s.length≤1000000000):ai Tryz.prog 71 [bC l] [] (aS (gX l)) []:=by
 refine tJ.bf (T:=aR Tryz.prog [(98,lJ)]) 1 hD (aj (af Jr ah)) aZ (by decide) fun Q hQ=>?_
 (conv=>arg 4;cbv);simp(maxSteps:=400000)only[↓aX,aY,BEq.rfl,reduceIte,reduceCtorEq,Nat.reduceLT,reduceAdd,reduceSub,reduceMul,Nat.reduceBEq,reduceLeDiff,reduceToNat,reduceLE,hQ,UN,I8,I9]
 refine aH (fun m S=>∃ i ver:Nat,i+m=l.length∧S=⟨dH 98 [(0,bC l),(3,.bG 0 ver),(4,.int .i64 i)],[⟨27,6,(ES++jV (l.take i)).map aA,true,ver⟩]⟩) l.length ⟨0,1,by omega,?_⟩ ?_ (hz:=Nat.zero_le _)
 · simp only [bV,keepR,reduceAdd,ng,Nat.reduceBEq,map_nil]
   rfl
 rintro m S ⟨i,ver,him,rfl⟩
 have zi:(0≤(i:Int))=True:=eq_true (by omega)
 have hcl:=tN (l.take i)
 rw [List.length_take] at hcl
 rcases lt_or_ge i l.length with h | h
 · have hlt:((i:Int)<(l.length:Int))=True:=eq_true (by omega)
   have hgi:=List.getElem?_eq_getElem h
   have hni:=hn _ (getElem_mem h)
   generalize l[i]=a at hgi hni
   have htk:=Hz hgi
   have hA:∀ (A B:List Nd),A.map aA++B.map aA=(A++B).map aA:=fun A B=>by rw [List.map_append]
   by_cases hk:a.c.kind=3
   rotate_left 1
   · have hk':=eq_false hk
     have e1:Cc a=[]:=if_neg hk
     rw [e1,append_nil] at htk
     simp(maxSteps:=400000)only[↓aX,aY,BEq.rfl,reduceIte,reduceCtorEq,Nat.reduceLT,reduceAdd,reduceSub,reduceMul,Nat.reduceBEq,reduceLeDiff,reduceToNat,reduceLE,hQ,hlt,zi,hgi,hk',WL,take_succ_cons,take_zero,qo]
     exact ⟨⟨by omega,by omega⟩,m-1,by omega,i+1,ver,by omega,by rw [htk,Int.natCast_add,Int.natCast_one]⟩
   have hk':=eq_true hk
   have hnr:=hni hk
   have e1:=DF hk
   generalize hX:ES++jV (l.take i)=X at *
   have hXl:X.length≤1000000:=by rw [← hX,length_append];have:ES.length=4:=rfl;omega
   have hX':ES++jV (l.take (i+1))=X++Cc a:=by rw [htk,← append_assoc,hX]
   have s1:∀ x:Nd,X.map aA++[aA x]=(X++[x]).map aA:=fun x=>by simp
   have fin:∀ (v:Nat) (Y:List Nd),ES++jV (l.take (i+1))=Y→∃ m',m'<m∧∃ Fv ab2:Nat,Fv+m'=l.length∧(⟨dH 98 [(0,bC l),(3,.bG 0 v),(4,.int .i64 ((i:Int)+1))],[⟨27,6,Y.map aA,true,v⟩]⟩:St)=⟨dH 98 [(0,bC l),(3,.bG 0 ab2),(4,.int .i64 Fv)],[⟨27,6,(ES++jV (l.take Fv)).map aA,true,ab2⟩]⟩:=fun v Y hy=>
    ⟨m-1,by omega,i+1,v,by omega,by rw [hy,Int.natCast_add,Int.natCast_one]⟩
   rw [e1] at hX'
   obtain ⟨x1,x2,x3,iw⟩:=xb hXl (Nat.le_trans (Nat.le_of_lt h) (Nat.le_trans hl (by decide:100000≤1000000)))
   cases hb1:(dw a.c true).2 with
   | false=>
    cases hb2:(dw a.c false).2 with
    | false=>
     have hX2:=hX'
     simp only [FH,hb1,hb2,Bool.false_eq_true,if_true,if_false,append_nil] at hX2
     simp(maxSteps:=400000)only[↓aX,aY,BEq.rfl,reduceIte,reduceCtorEq,Nat.reduceLT,reduceAdd,reduceSub,reduceMul,Nat.reduceBEq,reduceLeDiff,reduceToNat,reduceLE,hQ,hlt,zi,hgi,hk',↓lJ,dK,gZ,hb1,hb2,bN,bO,cK,I8,I9,vK,WL,take_succ_cons,take_zero,qo,length_append,length_cons,length_nil]
     exact ⟨x1.1,x1.2,hnr,hnr,iw,fin _ _ (by rw [hX2])⟩
    | true=>
     have hX2:=hX'
     simp only [FH,hb1,hb2,Bool.false_eq_true,if_true,if_false,append_nil] at hX2
     simp(maxSteps:=400000)only[↓aX,aY,BEq.rfl,reduceIte,reduceCtorEq,Nat.reduceLT,reduceAdd,reduceSub,reduceMul,Nat.reduceBEq,reduceLeDiff,reduceToNat,reduceLE,hQ,hlt,zi,hgi,hk',↓lJ,dK,gZ,hb1,hb2,bN,bO,cK,I8,I9,vK,WL,take_succ_cons,take_zero,qo,length_append,length_cons,length_nil]
     exact ⟨x1.1,x1.2,hnr,hnr,x2.1,x2.2,iw,fin _ _ (by rw [hX2];simp only [append_assoc])⟩
   | true=>
    cases hb2:(dw a.c false).2 with
    | false=>
     have hX2:=hX'
     simp only [FH,hb1,hb2,Bool.false_eq_true,if_true,if_false,append_nil] at hX2
     simp(maxSteps:=400000)only[↓aX,aY,BEq.rfl,reduceIte,reduceCtorEq,Nat.reduceLT,reduceAdd,reduceSub,reduceMul,Nat.reduceBEq,reduceLeDiff,reduceToNat,reduceLE,hQ,hlt,zi,hgi,hk',↓lJ,dK,gZ,hb1,hb2,bN,bO,cK,I8,I9,vK,WL,take_succ_cons,take_zero,qo,length_append,length_cons,length_nil]
     exact ⟨x1.1,x1.2,hnr,x2.1,x2.2,hnr,iw,fin _ _ (by rw [hX2];simp only [append_assoc])⟩
    | true=>
     have hX2:=hX'
     simp only [FH,hb1,hb2,Bool.false_eq_true,if_true,if_false,append_nil] at hX2
     simp(maxSteps:=400000)only[↓aX,aY,BEq.rfl,reduceIte,reduceCtorEq,Nat.reduceLT,reduceAdd,reduceSub,reduceMul,Nat.reduceBEq,reduceLeDiff,reduceToNat,reduceLE,hQ,hlt,zi,hgi,hk',↓lJ,dK,gZ,hb1,hb2,bN,bO,cK,I8,I9,vK,WL,take_succ_cons,take_zero,qo,length_append,length_cons,length_nil]
     exact ⟨x1.1,x1.2,hnr,x2.1,x2.2,hnr,x3.1,x3.2,iw,fin _ _ (by rw [hX2];simp only [append_assoc])⟩
 have hi:i=l.length:=by omega
 subst hi
 have hlt:((l.length:Int)<(l.length:Int))=False:=eq_false (by omega)
 rw [List.take_of_length_le (Nat.le_refl _)]
 rw [List.take_of_length_le (Nat.le_refl _)] at hcl
 simp(maxSteps:=400000)only[↓aX,aY,BEq.rfl,reduceIte,reduceCtorEq,Nat.reduceLT,reduceAdd,reduceSub,reduceMul,Nat.reduceBEq,reduceLeDiff,reduceToNat,reduceLE,hQ,hlt,UN,I8,I9]
 have hc0:ES.length=4:=rfl
 have hY:(ES++jV l).map aA++[aA ⟨4,0,[],[],false,0⟩]=(ES++jV l++[(⟨4,0,[],[],false,0⟩:Nd)]).map aA:=by simp
 rw [hY]
 refine ⟨by omega,by omega,?_⟩
 generalize hX:ES++jV l++[(⟨4,0,[],[],false,0⟩:Nd)]=X
 have hXl:X.length≤300005:=by rw [← hX];simp [ES];omega
 refine aH (fun m S=>∃ i ver:Nat,i+m=l.length∧S=⟨dH 98 [(0,bC l),(3,.bG 0 ver),(9,.int .i64 i)],[⟨27,6,(X++lN (l.take i)).map aA,true,ver⟩]⟩) l.length ⟨0,ver+1,by omega,?_⟩ ?_
 · simp only [bV,keepR,reduceAdd,ng,Nat.reduceBEq,map_nil]
   simp [lN]
 rintro m' S ⟨i,Jj,him',rfl⟩
 have zi:(0≤(i:Int))=True:=eq_true (by omega)
 have hsl:=yc (l.take i)
 rw [List.length_take] at hsl
 rcases lt_or_ge i l.length with h' | h'
 · have hlt:((i:Int)<(l.length:Int))=True:=eq_true (by omega)
   have hgi:=List.getElem?_eq_getElem h'
   have hsi:=hs _ (getElem_mem h')
   generalize l[i]=a at hgi hsi
   have htk:=HV hgi
   by_cases hk:a.c.kind=4
   · have hk':=eq_true hk
     have e1:Ce a=[a.c,⟨4,0,[],a.c.s++[0],false,0⟩]:=if_pos hk
     simp(maxSteps:=400000)only[↓aX,aY,BEq.rfl,reduceIte,reduceCtorEq,Nat.reduceLT,reduceAdd,reduceSub,reduceMul,Nat.reduceBEq,reduceLeDiff,reduceToNat,reduceLE,hQ,hlt,zi,hgi,hk',UN,I8,I9]
     have hrow:∀ y,y ∈ [aA a.c,aA ⟨4,0,[],a.c.s++[0],false,0⟩]→y.cells.length=6∧y.cells.all PV.storable=true:=fun y hy=>by
      simp only [List.mem_cons,List.not_mem_nil,or_false] at hy
      rcases hy with rfl | rfl <;> exact ⟨rfl,rfl⟩
     have hXs:X.length+(lN (l.take i)).length≤600000:=by omega
     exact ⟨by omega,hrow,by omega,by omega,rfl,⟨by omega,by omega⟩,m'-1,by omega,i+1,Jj+1,by omega,by
      rw [htk,e1,← append_assoc,List.map_append (l₁:=X++lN _),Int.natCast_add,Int.natCast_one];rfl⟩
   · have hk':=eq_false hk
     have e1:Ce a=[]:=if_neg hk
     rw [e1,append_nil] at htk
     simp(maxSteps:=400000)only[↓aX,aY,BEq.rfl,reduceIte,reduceCtorEq,Nat.reduceLT,reduceAdd,reduceSub,reduceMul,Nat.reduceBEq,reduceLeDiff,reduceToNat,reduceLE,hQ,hlt,zi,hgi,hk',UN,I8,I9]
     repeat' (first | omega | exact ⟨m'-1,by omega,i+1,Jj,by omega,by rw [htk];rfl⟩ | refine ⟨?_,?_⟩)
 · have hlt:((i:Int)<(l.length:Int))=False:=eq_false (by omega)
   have hr:gX l=X++lN (l.take i):=by
    rw [List.take_of_length_le h',← hX];simp [gX,ES]
   simp(maxSteps:=400000)only[↓aX,aY,BEq.rfl,reduceIte,reduceCtorEq,Nat.reduceLT,reduceAdd,reduceSub,reduceMul,Nat.reduceBEq,reduceLeDiff,reduceToNat,reduceLE,hQ,hlt,TA,hr]
def Ci:dD:=fun args objs K=>match args with
 | [a0]=>fE bC a0 (HK.mk:HK fun l=>(l.length≤100000)∧(∀ a ∈ l,a.c.kind=3→MN a.c)∧(∀ a ∈ l,a.c.s.length≤1000000000)∧K (aS (gX l)) objs 0)
 | _=>False
theorem P_:aB Tryz.prog 71 (Ci):=by
 intro args objs K h
 unfold Ci at h
 split at h
 · rename_i a0
   obtain ⟨l,rfl,h1,h2,h3,hk⟩:=h
   exact ⟨_,_,_,.pure _ rfl (MV l h1 h2 h3),hk⟩
 · exact h.elim
def w9:dD:=fun args objs K=>match args with
 | [.int .i64 mask,a1,a2]=>fE bC a1 (HK.mk:HK fun l=>fE aA a2 (HK.mk:HK fun n=>(0≤mask∧mask≤31)∧(l.length≤1000000)∧(∀ a ∈ l,fe a.c)∧(tC n)∧(n.s.length≤1000000)∧K (.bool (cO mask l n)) objs 0))
 | _=>False
theorem Qa:aB Tryz.prog 40 (w9):=by
 intro args objs K h
 unfold w9 at h
 split at h
 · rename_i mask a1 a2
   obtain ⟨l,rfl,n,rfl,h1,h2,h3,h4,h5,hk⟩:=h
   exact ⟨_,_,_,.pure _ rfl (MB mask l n ⟨h1.1,by omega⟩ h2 h3 h4 h5),hk⟩
 · exact h.elim
theorem Js (mask:Int) (l:List iA) (hm:0≤mask∧mask≤31) (hl:l.length≤100000) (hc:∀ a ∈ l,fe a.c) (hs:∀ a ∈ l,a.c.s.length≤500000):ai Tryz.prog 37 [.int .i64 mask,bC l] [] (kE mask l) []:=by
 refine Ae.Hy (T:=aR Tryz.prog [(71,Ci),(40,w9)]) 0 hD (aj (af P_ (af Qa ah))) aZ (by decide) (by decide) fun Q hQ=>?_
 have hcs:=H6 hc hs
 have hnr:∀ a ∈ l,a.c.kind=3→MN a.c:=fun a ha hk=>(hc a ha).num hk
 have hsb:∀ a ∈ l,a.c.s.length≤1000000000:=fun a ha=>by have:=hs a ha;omega
 have hcl:(gX l).length≤1000000:=by
  have h1:=tN l
  have h2:=yc l
  simp only [gX,length_append,length_cons,length_nil];omega
 (conv=>arg 4;cbv);simp(maxSteps:=400000)only[↓aX,aY,BEq.rfl,reduceIte,reduceCtorEq,Nat.reduceLT,reduceAdd,reduceSub,reduceMul,Nat.reduceBEq,reduceLeDiff,reduceToNat,reduceLE,hQ,↓Ci,bN,bO]
 refine ⟨hl,hnr,hsb,?_⟩
 refine aH (fun m S=>∃ i:Nat,i+m=(gX l).length∧(∀ (j:Nat) d,j<i→(gX l)[j]?=some d→cO mask l d=false)∧S=⟨dH 28 [(0,.int .i64 mask),(1,bC l),(4,.bJ 0 1 0 0),(6,aS (gX l)),(7,.int .i64 i)],[⟨27,6,[aA ⟨0,0,[],[],false,0⟩],true,1⟩]⟩) (gX l).length ⟨0,by omega,fun j d h=>absurd h (Nat.not_lt_zero j),?_⟩ ?_
 · simp only [bV,keepR,reduceAdd,ng,Nat.reduceBEq,map_nil]
   rfl
 rintro m S ⟨i,him,hb,rfl⟩
 have zi:(0≤(i:Int))=True:=eq_true (by omega)
 rcases lt_or_ge i (gX l).length with h | h
 · have hlt:((i:Int)<((gX l).length:Int))=True:=eq_true (by omega)
   have hgi:=List.getElem?_eq_getElem h
   have hsi:=hcs _ (getElem_mem h)
   generalize (gX l)[i]=c at hgi hsi
   cases hmem:cO mask l c with
   | true=>
    have hr:kE mask l=.bZ [aA c,.bool true]:=by simp [kE,KA hgi hmem hb]
    simp(maxSteps:=400000)only[↓aX,aY,BEq.rfl,reduceIte,reduceCtorEq,Nat.reduceLT,reduceAdd,reduceSub,reduceMul,Nat.reduceBEq,reduceLeDiff,reduceToNat,reduceLE,hQ,hlt,zi,hgi,↓w9,hmem,bN,bO,cK,I8,I9,hr]
    repeat' (first | omega | exact hc | exact hsi.1 | exact rfl | refine ⟨?_,?_⟩)
   | false=>
    have hb':∀ (j:Nat) d,j<i+1→(gX l)[j]?=some d→cO mask l d=false:=fun j d hj hd=>by
     rcases lt_or_ge j i with g | g
     · exact hb j d g hd
     · have:j=i:=by omega
       subst this
       rw [hgi] at hd;cases hd;exact hmem
    simp(maxSteps:=400000)only[↓aX,aY,BEq.rfl,reduceIte,reduceCtorEq,Nat.reduceLT,reduceAdd,reduceSub,reduceMul,Nat.reduceBEq,reduceLeDiff,reduceToNat,reduceLE,hQ,hlt,zi,hgi,↓w9,hmem,bN,bO,cK,I8,I9]
    repeat' (first | omega | exact hc | exact hsi.1 | exact ⟨m-1,by omega,i+1,by omega,hb',rfl⟩ | refine ⟨?_,?_⟩)
 · have hlt:((i:Int)<((gX l).length:Int))=False:=eq_false (by omega)
   have hr:kE mask l=.bZ [aA ⟨0,0,[],[],false,0⟩,.bool false]:=by
    have:=HZ (mask:=mask) (l:=l) fun j d hd=>hb j d (by have:=(List.getElem?_eq_some_iff.1 hd).1;omega) hd
    simp [kE,this,aN]
   simp(maxSteps:=400000)only[↓aX,aY,BEq.rfl,reduceIte,reduceCtorEq,Nat.reduceLT,reduceAdd,reduceSub,reduceMul,Nat.reduceBEq,reduceLeDiff,reduceToNat,reduceLE,hQ,hlt,bN,bO,I8,I9,hr]
   repeat' (first | omega | exact rfl | refine ⟨?_,?_⟩)
def tO:dD:=fun args objs K=>match args with
 | [.int .i64 mask,a1]=>fE bC a1 (HK.mk:HK fun l=>(0≤mask∧mask≤31)∧(l.length≤100000)∧(∀ a ∈ l,fe a.c)∧(∀ a ∈ l,a.c.s.length≤500000)∧K (kE mask l) objs 0)
 | _=>False
theorem MW:aB Tryz.prog 37 (tO):=by
 intro args objs K h
 unfold tO at h
 split at h
 · rename_i mask a1
   obtain ⟨l,rfl,h1,h2,h3,h4,hk⟩:=h
   exact ⟨_,_,_,.pure _ rfl (Js mask l h1 h2 h3 h4),hk⟩
 · exact h.elim
end Lp
namespace Lp
open Go Go.Proofs
open Nat (reduceAdd reduceLeDiff reduceMul reduceSub)
open Int (reduceLE reduceToNat toNat_natCast)
theorem KC {a:iA}(h:jC a=true) (hs:a.c.s.length≤500000):fe a.c:=by
 simp only [jC,Bool.and_eq_true] at h
 exact ⟨h.2,by omega⟩
theorem Qb (t:aC) (hs:uX t) (hl5:t.length≤100000) (hc:∀ n ∈ t,n.c.s.length≤500000):ai Tryz.prog 16 [ay t] [] (.bool (q8 t)) []:=by
 have hl:=hs.len
 refine BV.bf (T:=aR Tryz.prog [(14,qz),(38,mV),(37,tO)]) 0 hD (aj (af Jp (af EN (af MW ah)))) aZ (by decide) fun Q hQ=>?_
 cases hr:fo t with
 | false=>
  have hg:q8 t=false:=by simp [q8,hr]
  (conv=>arg 4;cbv);simp(maxSteps:=400000)only[↓av,ax,BEq.rfl,reduceIte,reduceCtorEq,Nat.reduceLT,reduceAdd,reduceSub,reduceMul,Nat.reduceBEq,reduceLeDiff,reduceToNat,reduceLE,hQ,↓qz,hr,hg]
  exact hs
 | true=>
  have hrt:=nQ hr
  have ho:=hrt.one
  have hg:q8 t=Y.fI Iu t:=by simp [q8,hr]
  (conv=>arg 4;cbv);simp(maxSteps:=400000)only[↓av,ax,BEq.rfl,reduceIte,reduceCtorEq,Nat.reduceLT,reduceAdd,reduceSub,reduceMul,Nat.reduceBEq,reduceLeDiff,reduceToNat,reduceLE,hQ,↓qz,hr]
  refine ⟨hs,?_⟩
  refine aH (fun m S=>∃ i:Nat,i+m=t.length∧Y.fI Iu (t.drop i)=q8 t∧S=⟨dH 35 [(0,ay t),(3,.int .i64 i)],[]⟩) t.length (hz:=Nat.zero_le _) ⟨0,by omega,by rw [hg];rfl,?_⟩ ?_
  · simp only [bV,keepR,reduceAdd,ng,Nat.reduceBEq,List.map_nil]
    rfl
  rintro m S ⟨i,him,hgd,rfl⟩
  rcases Nat.lt_or_ge i t.length with h | h
  · have hgi:=List.getElem?_eq_getElem h
    have hcx:=hc _ (List.getElem_mem h)
    generalize t[i]=n at hgi hcx
    have hd:=SN hgi
    rw [hgd] at hd
    have zi:(0≤(i:Int))=True:=eq_true (by omega)
    have hlt:((i:Int)<(t.length:Int))=True:=eq_true (by omega)
    have next:q8 t=Y.fI Iu (t.drop (i+1))→∃ m',m'<m∧∃ Fv:Nat,Fv+m'=t.length∧Y.fI Iu (t.drop Fv)=q8 t∧(⟨dH 35 [(0,ay t),(3,.int .i64 ((i:Int)+1))],[]⟩:St)=⟨dH 35 [(0,ay t),(3,.int .i64 Fv)],[]⟩:=fun e=>
     ⟨m-1,by omega,i+1,by omega,e.symm,rfl⟩
    by_cases hk:n.kind=1
    rotate_left 1
    · have hk':=eq_false hk
      have hla:x_ t i=true:=by
       obtain ⟨ps,c,_,_,h3,_⟩:=Y.rR ho hgi
       have hd0:=List.drop_eq_getElem_cons h
       rw [List.getElem?_eq_getElem h] at hgi
       cases hgi
       simp only [x_,hd0,h3,Iu]
       simp [hk]
      rw [hla,Bool.true_and] at hd
      have hst:=next hd
      simp(maxSteps:=400000)only[↓av,ax,BEq.rfl,reduceIte,reduceCtorEq,Nat.reduceLT,reduceAdd,reduceSub,reduceMul,Nat.reduceBEq,reduceLeDiff,reduceToNat,reduceLE,hQ,hlt,zi,hgi,hk']
      repeat' (first | omega | exact hst | refine ⟨?_,?_⟩)
    · have hk':=eq_true hk
      obtain ⟨ps,p1,p2,p3,p4,p5,p6,p7⟩:=UI hrt hgi hk
      have hat:nW t i=ps.flatten.map iJ:=by simp only [nW,hgi,hk,if_true,p2]
      have hal:(nW t i).length≤100000:=by rw [hat,List.length_map,p2,List.length_take,List.length_drop];omega
      have hmem:∀ x ∈ ps.flatten,x ∈ t:=fun x hx=>by rw [p2] at hx;exact List.mem_of_mem_drop (List.mem_of_mem_take hx)
      have hsm:∀ a ∈ nW t i,a.c.s.length≤500000:=fun a ha=>by
       rw [hat] at ha
       obtain ⟨x,hx,rfl⟩:=List.mem_map.1 ha
       exact hc x (hmem x hx)
      have hcm:∀ a ∈ nW t i,fe a.c:=fun a ha=>by
       have hsa:=hsm a ha
       rw [hat] at ha
       obtain ⟨x,hx,rfl⟩:=List.mem_map.1 ha
       exact KC (p7 x hx) hsa
      have hla:x_ t i=(kN n.n (nW t i)).2:=by
       have hd0:=List.drop_eq_getElem_cons h
       have hx:=hgi
       rw [List.getElem?_eq_getElem h] at hx
       cases hx
       simp only [x_,hd0,p1,Iu,hat]
       simp [hk]
      rw [hla] at hd
      cases hls:(kN n.n (nW t i)).2 with
      | false=>
       rw [hls] at hd
       have hr2:q8 t=false:=by rw [hd];rfl
       simp(maxSteps:=400000)only[↓av,ax,BEq.rfl,reduceIte,reduceCtorEq,Nat.reduceLT,reduceAdd,reduceSub,reduceMul,Nat.reduceBEq,reduceLeDiff,reduceToNat,reduceLE,hQ,hlt,zi,hgi,hk',↓mV,toNat_natCast,↓tO,kE,gZ,bN,bO,I8,I9,hls,hr2]
       repeat' (first | omega | exact hcm | exact hsm | exact ho | exact rfl | refine ⟨?_,?_⟩)
      | true=>
       rw [hls,Bool.true_and] at hd
       have hst:=next hd
       simp(maxSteps:=400000)only[↓av,ax,BEq.rfl,reduceIte,reduceCtorEq,Nat.reduceLT,reduceAdd,reduceSub,reduceMul,Nat.reduceBEq,reduceLeDiff,reduceToNat,reduceLE,hQ,hlt,zi,hgi,hk',↓mV,toNat_natCast,↓tO,kE,gZ,bN,bO,I8,I9,hls]
       repeat' (first | omega | exact hcm | exact hsm | exact ho | exact hst | exact rfl | refine ⟨?_,?_⟩)
  · have hlt:((i:Int)<(t.length:Int))=False:=eq_false (by omega)
    have hr2:q8 t=true:=by rw [← hgd,List.drop_eq_nil_of_le h];rfl
    simp(maxSteps:=400000)only[↓av,ax,BEq.rfl,reduceIte,reduceCtorEq,Nat.reduceLT,reduceAdd,reduceSub,reduceMul,Nat.reduceBEq,reduceLeDiff,reduceToNat,reduceLE,hQ,hlt,hr2]
def yg:dD:=fun args objs K=>match args with
 | [a0]=>fE ay a0 (HK.mk:HK fun t=>(uX t)∧(t.length≤100000)∧(∀ n ∈ t,n.c.s.length≤500000)∧K (.bool (q8 t)) objs 0)
 | _=>False
theorem MX:aB Tryz.prog 16 (yg):=by
 intro args objs K h
 unfold yg at h
 split at h
 · rename_i a0
   obtain ⟨t,rfl,h1,h2,h3,hk⟩:=h
   exact ⟨_,_,_,.pure _ rfl (Qb t h1 h2 h3),hk⟩
 · exact h.elim
def H8 (t:aC) (k:Nat):Bool:=decide (t.length≤k) && t.all jR && q8 t
theorem TB (t:aC) (k:Nat) (hk:k≤100000) (hl:t.length≤4611686018427387904) (htx:∀ n ∈ t,n.s.length≤4611686018427387904∧n.name.length≤4611686018427387904∧n.c.s.length≤4611686018427387904) (hcn:∀ n ∈ t,n.c.name.length≤4611686018427387904) :
  ai Tryz.prog 7 [ay t,.int .i64 k] [] (.bool (H8 t k)) []:=by
 refine DC.bf (T:=aR Tryz.prog [(24,qx),(16,yg)]) 0 hD (aj (af Jm (af MX ah))) aZ (by decide) fun Q hQ=>?_
 cases hsh:(decide (t.length≤k) && t.all jR) with
 | false=>
  have hr:H8 t k=false:=by simp only [H8,hsh,Bool.false_and]
  (conv=>arg 4;cbv);simp(maxSteps:=400000)only[↓av,ax,BEq.rfl,reduceIte,reduceCtorEq,Nat.reduceLT,reduceAdd,reduceSub,reduceMul,Nat.reduceBEq,reduceLeDiff,reduceToNat,reduceLE,hQ,↓qx,toNat_natCast,hsh,hr]
  repeat' (first | omega | exact htx | refine ⟨?_,?_⟩)
 | true=>
  have hr:H8 t k=q8 t:=by simp only [H8,hsh,Bool.true_and]
  simp only [Bool.and_eq_true,decide_eq_true_eq,List.all_eq_true] at hsh
  have hsh':(decide (t.length≤k) && t.all jR)=true:=by simp only [Bool.and_eq_true,decide_eq_true_eq,List.all_eq_true];exact hsh
  have hs1:∀ n ∈ t,n.s.length≤100∧n.name.length≤100∧n.c.s.length≤100:=fun n hn=>by
   have:=hsh.2 n hn
   simp only [jR,Bool.and_eq_true,decide_eq_true_eq] at this
   exact ⟨this.1.1,this.1.2,this.2⟩
  have hsm:uX t:=⟨by omega,fun n hn=>by have:=hs1 n hn;exact ⟨by omega,by omega,⟨by omega,hcn n hn⟩⟩⟩
  have hcs:∀ n ∈ t,n.c.s.length≤500000:=fun n hn=>by have:=hs1 n hn;omega
  (conv=>arg 4;cbv);simp(maxSteps:=400000)only[↓av,ax,BEq.rfl,reduceIte,reduceCtorEq,Nat.reduceLT,reduceAdd,reduceSub,reduceMul,Nat.reduceBEq,reduceLeDiff,reduceToNat,reduceLE,hQ,↓qx,toNat_natCast,hsh',↓yg,hr]
  have hl5:t.length≤100000:=by omega
  repeat' (first | omega | exact htx | exact hsm | exact hcs | refine ⟨?_,?_⟩)
def tQ:dD:=fun args objs K=>match args with
 | [a0,.int .i64 k]=>fE ay a0 (HK.mk:HK fun t=>(0≤k∧k≤100000)∧(t.length≤4611686018427387904)∧(∀ n ∈ t,n.s.length≤4611686018427387904∧n.name.length≤4611686018427387904∧n.c.s.length≤4611686018427387904)∧(∀ n ∈ t,n.c.name.length≤4611686018427387904)∧K (.bool (H8 t k.toNat)) objs 0)
 | _=>False
theorem Qc:aB Tryz.prog 7 (tQ):=by
 intro args objs K h
 unfold tQ at h
 split at h
 · rename_i a0 k
   obtain ⟨t,rfl,h1,h2,h3,h4,hk⟩:=h
   exact ⟨_,_,_,.pure _ rfl ((by have:=TB t k.toNat (by omega) h2 h3 h4;rwa [Int.toNat_of_nonneg h1.1] at this)),hk⟩
 · exact h.elim
end Lp
namespace Lp
open Go Go.Proofs
open Nat (reduceAdd reduceLeDiff reduceMul reduceSub)
open Int (reduceLE reduceToNat)
def vR (l:List aC) (ver:Nat):Obj:=⟨23,1,l.map ay,true,ver⟩
theorem DI (f:PV→PV) (hf:∀ l,f (ay l)=ay l) (D:List aC):(D.map ay).map (PV.bI f)=D.map ay:=by
 rw [List.map_map]
 exact List.map_congr_left fun x _=>hf x
theorem H9 (f:PV→PV) (hf:∀ x:dS,(aK x).bI f=aK x) (D:aC):(D.map aK).map (PV.bI f)=D.map aK:=by
 rw [List.map_map]
 exact List.map_congr_left fun x _=>hf x
theorem Qd (d n:Nat) (X:List Obj) (T:TypeId) (D:List aC) (u:Nat):fB d n X ⟨T,1,D.map ay,true,u⟩=⟨T,1,D.map ay,true,u⟩:=by
 simp only [fB,DI (eZ d n X) (fun _=>rfl)]
theorem qB (t:aC) (ho:Y.One t):∃ n r ps,t=n::r∧0≤n.many∧Y.parts n.many.toNat r=some ps∧ps.flatten=r∧(∀ p ∈ ps,Y.One p)∧Y.partsOf n r=ps∧n.many=(ps.length:Int)∧ps.length≤r.length:=by
 obtain ⟨n,r,rfl⟩:∃ n r,t=n::r:=by
  cases t with
  | nil=>exact absurd rfl ho.ne
  | cons n r=>exact ⟨n,r,rfl⟩
 obtain ⟨hm,ps,h1,h2,h3⟩:=ho.parts
 have hl:=Y.bS _ _ _ h1
 exact ⟨n,r,ps,rfl,hm,h1,h2,h3,by simp [Y.partsOf,h1],by omega,by have:=Y.eO _ _ _ h1;omega⟩
theorem Qe (a b:aC) (ha:a.length≤1000000) (hb:b.length≤1000000):ai Tryz.prog 13 [ay a,ay b] [] (.bool (decide (a=b))) []:=by
 refine B_.bf (T:=aR Tryz.prog []) 0 hD (aj ah) aZ (by decide) fun Q hQ=>?_
 by_cases hl:a.length=b.length
 rotate_left 1
 · have hl':((a.length:Int)=(b.length:Int))=False:=eq_false (by omega)
   have hr:decide (a=b)=false:=decide_eq_false fun h=>hl (by rw [h])
   (conv=>arg 4;cbv);simp(maxSteps:=400000)only[↓av,ax,BEq.rfl,reduceIte,reduceCtorEq,Nat.reduceLT,reduceAdd,reduceSub,reduceMul,Nat.reduceBEq,reduceLeDiff,reduceToNat,reduceLE,hQ,hl',hr]
 have hl':((a.length:Int)=(b.length:Int))=True:=eq_true (by omega)
 (conv=>arg 4;cbv);simp(maxSteps:=400000)only[↓av,ax,BEq.rfl,reduceIte,reduceCtorEq,Nat.reduceLT,reduceAdd,reduceSub,reduceMul,Nat.reduceBEq,reduceLeDiff,reduceToNat,reduceLE,hQ,hl']
 refine aH (fun m S=>∃ i:Nat,i+m=a.length∧(∀ j,j<i→a[j]?=b[j]?)∧S=⟨dH 26 [(0,ay a),(1,ay b),(5,.int .i64 i)],[]⟩) a.length ⟨0,by omega,fun j h=>absurd h (by omega),?_⟩ ?_
 · simp only [bV,keepR,reduceAdd,ng,Nat.reduceBEq,List.map_nil]
   rfl
 rintro m S ⟨i,him,hj,rfl⟩
 have zi:(0≤(i:Int))=True:=eq_true (by omega)
 rcases Nat.lt_or_ge i a.length with h | h
 rotate_left 1
 · have hlt:((i:Int)<(a.length:Int))=False:=eq_false (by omega)
   have hab:a=b:=List.ext_getElem? fun j=>by
    by_cases hji:j<i
    · exact hj j hji
    · rw [List.getElem?_eq_none (by omega),List.getElem?_eq_none (by omega)]
   have hr:decide (a=b)=true:=decide_eq_true hab
   simp(maxSteps:=400000)only[↓av,ax,BEq.rfl,reduceIte,reduceCtorEq,Nat.reduceLT,reduceAdd,reduceSub,reduceMul,Nat.reduceBEq,reduceLeDiff,reduceToNat,reduceLE,hQ,hlt,hr]
 have hlt:((i:Int)<(a.length:Int))=True:=eq_true (by omega)
 have ga:=List.getElem?_eq_getElem h
 have gb:b[i]?=some (b[i]'(by omega)):=List.getElem?_eq_getElem (by omega)
 generalize a[i]=x at ga
 generalize b[i]'(by omega)=y at gb
 by_cases hxy:x=y
 · have hxy':(x=y)=True:=eq_true hxy
   simp(maxSteps:=400000)only[↓av,ax,BEq.rfl,reduceIte,reduceCtorEq,Nat.reduceLT,reduceAdd,reduceSub,reduceMul,Nat.reduceBEq,reduceLeDiff,reduceToNat,reduceLE,hQ,hlt,zi,ga,gb,aed,hxy']
   refine ⟨⟨by omega,by omega⟩,m-1,by omega,i+1,by omega,?_,by simp⟩
   intro j hji
   by_cases hjj:j=i
   · subst hjj;rw [ga,gb,hxy]
   · exact hj j (by omega)
 · have hxy':(x=y)=False:=eq_false hxy
   have hr:decide (a=b)=false:=decide_eq_false fun h=>hxy (by rw [h,gb] at ga;exact (Option.some.inj ga).symm)
   simp(maxSteps:=400000)only[↓av,ax,BEq.rfl,reduceIte,reduceCtorEq,Nat.reduceLT,reduceAdd,reduceSub,reduceMul,Nat.reduceBEq,reduceLeDiff,reduceToNat,reduceLE,hQ,hlt,zi,ga,gb,aed,hxy',hr]
def yh:dD:=fun args objs K=>match args with
 | [a0,a1]=>fE ay a0 (HK.mk:HK fun a=>fE ay a1 (HK.mk:HK fun b=>(a.length≤1000000)∧(b.length≤1000000)∧K (.bool (decide (a=b))) objs 0))
 | _=>False
theorem MZ:aB Tryz.prog 13 (yh):=by
 intro args objs K h
 unfold yh at h
 split at h
 · rename_i a0 a1
   obtain ⟨a,rfl,b,rfl,h1,h2,hk⟩:=h
   exact ⟨_,_,_,.pure _ rfl (Qe a b h1 h2),hk⟩
 · exact h.elim
end Lp
namespace Lp
open Go Go.Proofs
end Lp
namespace Lp
open Go Go.Proofs
open List (length_cons length_map mem_cons_of_mem)
structure zq (t:aC):Prop where
 rt:rZ bA eD t
 len:t.length≤100000
 cs:∀ n ∈ t,n.c.s.length≤500000
 nm:∀ n ∈ t,n.name.length≤4611686018427387904
theorem zq.part {n:dS}{r:aC}(h:zq (n::r)):∀ p ∈ aF (n::r),zq p∧p.length≤r.length:=by
 intro p hp
 have h1:=h.rt.part p hp
 have hl:=h.len
 simp only [length_cons] at hl
 refine ⟨⟨h1.1,by omega,?_,?_⟩,h1.2⟩
 all_goals
  by_cases hk:n.kind=1
  · simp only [aF,hk,if_true] at hp;cases hp
  simp only [aF,hk,if_false] at hp
  obtain ⟨_,_,ps,h3,h4,_⟩:=h.rt.parts
  rw [iC h3] at hp
  obtain ⟨q,hq,rfl⟩:=List.mem_map.1 hp
  have hr:∀ x ∈ q,x ∈ r:=fun x hx=>by rw [← h4];exact List.mem_flatten.2 ⟨q,hq,hx⟩
  intro x hx
  cases q with
  | nil=>cases hx
  | cons y z=>
   rcases List.mem_cons.1 hx with rfl | hx
   · first
      | exact h.cs y (mem_cons_of_mem _ (hr y (List.mem_cons_self ..)))
      | exact Nat.zero_le _
   · first
      | exact h.cs x (mem_cons_of_mem _ (hr x (mem_cons_of_mem _ hx)))
      | exact h.nm x (mem_cons_of_mem _ (hr x (mem_cons_of_mem _ hx)))
theorem zq.atoms {n:dS}{r:aC}(h:zq (n::r)) (hk:n.kind=1):(0≤n.n∧n.n≤31)∧(bW (n::r)).length≤100000∧(∀ a ∈ bW (n::r),fe a.c)∧(∀ a ∈ bW (n::r),a.c.s.length≤500000):=by
 obtain ⟨ps,p1,p2,p3,p4,p5,p6,p7⟩:=UI (i:=0) h.rt rfl hk
 have hl:=h.len
 simp only [length_cons,List.drop_succ_cons,List.drop_zero] at hl p1 p2 p4
 have ha:bW (n::r)=ps.flatten.map iJ:=by simp only [bW,hk,if_true,p2]
 have hm:∀ x ∈ ps.flatten,x ∈ r:=fun x hx=>by rw [p2] at hx;exact List.mem_of_mem_take hx
 have hs:∀ a ∈ bW (n::r),a.c.s.length≤500000:=fun a h'=>by
  rw [ha] at h'
  obtain ⟨x,hx,rfl⟩:=List.mem_map.1 h'
  exact h.cs x (mem_cons_of_mem _ (hm x hx))
 refine ⟨⟨by omega,by omega⟩,?_,fun a h'=>?_,hs⟩
 · rw [ha,length_map,p2,List.length_take];omega
 · have h2:=hs a h'
   rw [ha] at h'
   obtain ⟨x,hx,rfl⟩:=List.mem_map.1 h'
   exact KC (p7 x hx) h2
theorem zq.names {n:dS}{r:aC}(h:zq (n::r)):(gI (n::r)).length≤100000∧∀ s ∈ gI (n::r),s.length≤4611686018427387904:=by
 have hl:=h.len
 simp only [length_cons] at hl
 by_cases hk:n.kind=2
 · obtain ⟨_,_,ps,h3,h4,_⟩:=h.rt.parts
   have e:gI (n::r)=ps.map Y.nameOf:=by simp only [gI,hk,if_true,iC h3]
   have h1:=DU h.rt
   have e2:aF (n::r)=ps.map Y.jX:=by simp only [aF,hk,iC h3];rfl
   rw [e2,length_map] at h1
   rw [e]
   refine ⟨by rw [length_map];omega,fun s hs=>?_⟩
   obtain ⟨q,hq,rfl⟩:=List.mem_map.1 hs
   cases q with
   | nil=>exact Nat.zero_le _
   | cons y z=>exact h.nm y (mem_cons_of_mem _ (by rw [← h4];exact List.mem_flatten.2 ⟨_,hq,List.mem_cons_self ..⟩))
 · have e:gI (n::r)=[]:=by simp [gI,hk]
   rw [e];exact ⟨Nat.zero_le _,fun s hs=>by cases hs⟩
end Lp
namespace Lp
open Go Go.Proofs
open List (length_cons length_drop length_nil nil_append tail_drop)
open Nat (reduceAdd reduceLeDiff reduceMul reduceSub)
theorem M0 (v:aC) (i c:Nat) (hv:v.length≤4611686018427387904) (h:Y.skip (v.drop i) 1=some c):ai Tryz.prog 94 [ay v,.int .i64 i] [] (.int .i64 (i+c:Nat)) []:=by
 refine PE.pure (T:=aR Tryz.prog []) 0 hD (aj ah) aZ (by decide) ?_
 (conv=>arg 4;cbv);simp only [↓zG,Eb,↓AZ,↓yD,↓A7,yE,↓mI,m_,jF,fC,Db,reduceAdd,reduceSub,qU,bL,Fq,Fs,wH]
 refine aH (fun m S=>∃ (j k c':Nat),m=c'∧Y.skip (v.drop j) k=some c'∧j+c'=i+c∧S=⟨mkT 19 [(0,ay v),(1,.int .i64 j),(5,.int .i64 k)],[]⟩) c ⟨i,1,c,rfl,h,rfl,?_⟩ ?_
 · simp only [QS,ay,qU];rfl
 rintro m S ⟨j,k,c',rfl,hs,hj,rfl⟩
 simp only [↓zG,Eb,↓AZ,↓yD,↓A7,yE,↓mI,m_,jF,fC,Db,reduceAdd,reduceSub,qU,QS,bL,ay,aK,Fq,Fs,wH,a_,fw,aL,dZ,↓y8,↓Lj,IU,uK,Fu,Ir,Bool.not_false,Bool.and_self,reduceLeDiff,forall_const,ne_eq,reduceCtorEq,not_false_eq_true,true_and,PV.bool.injEq,Int.toNat_natCast,Nat.zero_add,decide_eq_true_eq,length_cons,length_nil]
 refine ⟨fun hk=>?_,fun hk=>?_⟩
 · obtain ⟨k,rfl⟩:∃ k',k=k'+1:=⟨k-1,by omega⟩
   have hjl:j<v.length:=by
    rcases Nat.lt_or_ge j v.length with h' | h'
    · exact h'
    · rw [List.drop_eq_nil_of_le h'] at hs;simp [Y.skip] at hs
   rw [List.drop_eq_getElem_cons hjl] at hs
   obtain ⟨hm,c'',rfl,hs'⟩:=Y.dm hs
   have hle:=Y.dY _ _ _ hs'
   simp only [length_drop] at hle
   have hk2:((k+1:Nat):Int)+(v[j].many-1)=((k+v[j].many.toNat:Nat):Int):=by omega
   exact ⟨by omega,v[j],List.getElem?_eq_getElem hjl,by omega,by omega,by omega,c'',by omega,j+1,k+v[j].many.toNat,c'',rfl,hs',by omega,by rw [hk2];rfl⟩
 · rw [if_pos trivial]
   have hk0:k=0:=by have:=of_decide_eq_false hk;omega
   subst hk0
   have:m=0:=by cases hd:v.drop j <;> rw [hd] at hs <;> simp [Y.skip] at hs <;> exact hs.symm
   subst this
   congr 1;omega
def vS (v:aC):Obj:=⟨51,11,v.map aK,true,0⟩
theorem w_ (v:aC):eX [vS v]:=by
 intro o ho x hx p hp
 simp only [List.mem_singleton] at ho
 subst ho
 simp only [vS,List.mem_map] at hx
 obtain ⟨n,_,rfl⟩:=hx
 simp only [aK,PV.cells,List.mem_cons,List.not_mem_nil,or_false] at hp
 rcases hp with rfl | rfl | rfl | rfl | rfl | rfl | rfl | rfl | rfl | rfl | rfl <;> rfl
theorem TD (n:dS):(aK n).cells.length=11∧(aK n).cells.all PV.storable=true:=⟨rfl,rfl⟩
theorem Zu (d n:Nat) (objs:List Obj) (v:aC):(v.map aK).map (PV.bI (eZ d n objs))=v.map aK:=by
 rw [List.map_map]
 exact List.map_congr_left fun x _=>rfl
theorem TF:ai Tryz.prog 28 [.sl 11 [] (some true)] [] (.bG 0 0) [vS []]:=by
 refine ja.made (T:=aR Tryz.prog []) 0 hD (aj ah) aZ ?_
 (conv=>arg 4;cbv);simp only [↓zG,Eb,↓AZ,↓yD,↓A7,yE,↓mI,Ec,Db,reduceAdd,reduceSub,qU,QS,bL,Fq,Fs,wH,dU,forall_const,reduceCtorEq,false_imp_iff,and_true,TK.slice.injEq,exists_eq',true_and]
 exact ⟨_,0,0,_,Weak.D9 2 51 11 rfl,rfl,rfl,rfl,rfl,rfl,w_ []⟩
theorem Qf (v:aC) (hv:v.length≤1099511627776):ai Tryz.prog 28 [.sl 11 (v.map aK) (some false)] [] (.bG 0 0) [vS v]:=by
 refine ja.made (T:=aR Tryz.prog []) 0 hD (aj ah) aZ ?_
 (conv=>arg 4;cbv);simp only [↓zG,Eb,↓AZ,↓yD,↓A7,yE,↓mI,Ec,Db,reduceAdd,reduceSub,qU,QS,bL,Fq,Fs,wH,dU,forall_const,reduceCtorEq,false_imp_iff,and_true,TK.slice.injEq,exists_eq',true_and]
 simp only [bK,dO,mh,newObj,iR,bL,ne_eq,reduceCtorEq,not_false_eq_true,true_and,if_true,List.all_nil,Nat.zero_mul,Nat.zero_le,nil_append,length_nil,List.getElem?_cons_zero,Option.some.injEq]
 refine ⟨rfl,rfl,rfl,rfl,?_,_,rfl,rfl,rfl,rfl,rfl,?_,?_,fun _ _ h=>h.elim,_,0,2,_,Weak.refl _ _,rfl,rfl,rfl,rfl,?_,w_ v⟩
 · intro y hy
   obtain ⟨n,_,rfl⟩:=List.mem_map.1 hy
   exact TD n
 · simp;omega
 · simp;omega
 · simp only [fB,vS,List.replicate_zero,nil_append,Zu]
theorem Qg (v:aC) (hv:v.length≤1099511627776):ai Tryz.prog 28 [ay v] [] (.bG 0 0) [vS v]:=
 ai.split (pre:=[]) (post:=[]) (fun h=>by
  have:v=[]:=by simpa using h
  subst this
  exact TF) (Qf v hv)
theorem TG (t:aC) (i:Int) (h0:0≤i) (hi:i.toNat<t.length) (hl:t.length≤1000000) (ho:Y.One t):ai Tryz.prog 94 [ay t,.int .i64 i] [] (.int .i64 (i.toNat+(Y.oQ t i.toNat).length:Nat)) []:=by
 obtain ⟨c,hc⟩:=ho.at hi
 have hle:=Y.dY _ _ _ hc
 rw [length_drop] at hle
 have hs:(Y.oQ t i.toNat).length=c:=by unfold Y.oQ;rw [hc];simp only [List.length_take,length_drop];omega
 have:=M0 t i.toNat c (by omega) hc
 rw [Int.toNat_of_nonneg h0] at this
 rw [hs]
 exact this
def qC:dD:=fun args objs K=>match args with
 | [a0,.int .i64 i]=>fE ay a0 (HK.mk:HK fun t=>(0≤i)∧(i.toNat<t.length)∧(t.length≤1000000)∧(Y.One t)∧K (.int .i64 (i.toNat+(Y.oQ t i.toNat).length:Nat)) objs 0)
 | _=>False
theorem Jt:aB Tryz.prog 94 (qC):=by
 intro args objs K h
 unfold qC at h
 split at h
 · rename_i a0 i
   obtain ⟨t,rfl,h1,h2,h3,h4,hk⟩:=h
   exact ⟨_,_,_,.pure _ rfl ((TG t i h1 h2 h3 h4)),hk⟩
 · exact h.elim
def jA:Nat→List aC→List (List PV)
 | _,[]=>[]
 | i,p::ps=>[.int .i64 i,.int .i64 (i+p.length:Nat)]::jA (i+p.length) ps
theorem tT:∀ (ps:List aC) (i:Nat),(jA i ps).length=ps.length
 | [],_=>rfl
 | p::ps,i=>by simp only [jA,length_cons,tT ps]
theorem DJ:∀ (ps:List aC) (i:Nat),∀ y ∈ jA i ps,y.length=2
 | [],_,y,h=>by cases h
 | p::ps,i,y,h=>by
  rcases List.mem_cons.1 h with rfl | h
  · rfl
  · exact DJ ps _ y h
theorem TH (t:aC):ai Tryz.prog 63 [ay t] [] (.fn 93 [] [.addr (ay t)]) []:=by
 refine WI.pure (T:=aR Tryz.prog []) 1 hD (aj ah) aZ (by decide) ?_
 (conv=>arg 4;cbv);simp only [↓zG,Eb,↓AZ,↓yD,↓A7,yE,↓mI,m_,jF,fC,reduceAdd,reduceSub,qU,bL,Iz,jN,newObj,ay,Fu,Ir,ne_eq,reduceCtorEq,not_false_eq_true,true_and,length_cons,length_nil,nil_append]
 exact ⟨rfl,rfl,rfl⟩
def tV:dD:=fun args objs K=>match args with
 | [a0]=>fE ay a0 (HK.mk:HK fun t=>K (.fn 93 [] [.addr (ay t)]) objs 0)
 | _=>False
theorem Eu:aB Tryz.prog 63 (tV):=by
 intro args objs K h
 unfold tV at h
 split at h
 · rename_i a0
   obtain ⟨t,rfl,hk⟩:=h
   exact ⟨_,_,_,.pure _ rfl (TH t),hk⟩
 · exact h.elim
theorem Ev (t:aC) (n:dS) (ps:List aC) (ho:Y.One t) (hl:t.length≤1000000) (hg0:t[0]?=some n) (hp:Y.parts n.many.toNat (t.drop 1)=some ps) (hm:0≤n.many) :
  Gives Tryz.prog 93 [.addr (ay t)] (if n.kind=1 then [] else jA 1 ps):=by
 refine PG.gives (fnT:=sJ [(94,qC)]) hD (af Jt ah) aZ ?_
 intro I J objs y hI IL Yo
 have hpl:=Y.bS _ _ _ hp
 have GH:=Y.eO _ _ _ hp
 rw [length_drop] at GH
 have hmn:n.many=(ps.length:Int):=by omega
 (conv=>arg 4;cbv);simp(maxSteps:=400000)only[↓av,ax,BEq.rfl,reduceIte,reduceCtorEq,Nat.reduceLT,reduceAdd,reduceSub,reduceMul,Nat.reduceBEq,reduceLeDiff,Int.reduceToNat,Int.reduceLE,hg0]
 refine aH (fun m S=>∃ (k i:Nat) (O:List Obj) (rest:List aC),k+rest.length=ps.length∧m=rest.length∧Y.parts rest.length (t.drop i)=some rest∧ps.drop k=rest∧(jA 1 ps).drop k=jA i rest∧(if n.kind=1 then O=objs else I k O)∧
  S=⟨dH 28 [(0,.E5 y),(1,.addr (ay t)),(3,.int .i64 i),(8,.int .i64 n.many),(9,.int .i64 k)],O⟩) ps.length ⟨0,1,objs,ps,by omega,rfl,by rw [hpl];exact hp,rfl,rfl,by split;rfl;exact hI,?_⟩ ?_
 · simp only [bV,keepR,reduceAdd,ng,Nat.reduceBEq,List.map_nil]
   rfl
 rintro m S ⟨k,i,O,rest,hk,rfl,hps,hd,hrw,VZ,rfl⟩
 cases rest with
 | nil=>
  simp only [length_nil,Nat.add_zero] at hk
  have hlt:((k:Int)<(ps.length:Int))=False:=eq_false (by omega)
  simp(maxSteps:=400000)only[↓av,ax,BEq.rfl,reduceIte,reduceCtorEq,Nat.reduceLT,reduceAdd,reduceSub,reduceMul,Nat.reduceBEq,reduceLeDiff,Int.reduceToNat,Int.reduceLE,hmn,hlt]
  refine ⟨.inl rfl,.inl ?_⟩
  by_cases h1:n.kind=1
  · rw [if_pos h1] at VZ ⊢;rw [VZ];exact hI
  · rw [if_neg h1] at VZ ⊢;rw [tT,← hk];exact VZ
 | cons p qs=>
  simp only [length_cons] at hk
  obtain ⟨c,qs',h1,h2,h3⟩:=Y.eH (k:=qs.length) hps
  simp only [List.cons.injEq] at h2
  obtain ⟨hp1,rfl⟩:=h2
  have hc:=Y.dY _ _ _ h1
  simp only [length_drop] at hc
  have hlt:((k:Int)<(ps.length:Int))=True:=eq_true (by omega)
  have hpc:p.length=c:=by rw [hp1,List.length_take,length_drop];omega
  have hsub:(Y.oQ t i).length=c:=by
   have e:Y.oQ t i=p:=by unfold Y.oQ;rw [h1];exact hp1.symm
   rw [e,hpc]
  have zi:(0≤(i:Int))=True:=eq_true (by omega)
  by_cases hk1:n.kind=1
  · have S9:=eq_true hk1
    simp(maxSteps:=400000)only[↓av,ax,BEq.rfl,reduceIte,reduceCtorEq,Nat.reduceLT,reduceAdd,reduceSub,reduceMul,Nat.reduceBEq,reduceLeDiff,Int.reduceToNat,Int.reduceLE,hmn,hlt,↓qC,Int.toNat_natCast,hsub,hg0,S9]
    rw [if_pos hk1] at VZ
    have e1:(jA 1 ps).drop (k+1)=jA (i+c) qs:=by
     have:=congrArg List.tail hrw
     simpa [jA,tail_drop,hpc] using this
    have e2:ps.drop (k+1)=qs:=by
     have:=congrArg List.tail hd
     simpa [tail_drop] using this
    exact ⟨by omega,by omega,hl,ho,⟨by omega,by omega⟩,qs.length,by omega,k+1,i+c,O,qs,by omega,rfl,by rw [← List.drop_drop];exact h3,e2,e1,VZ,by rw [Int.natCast_add k 1];rfl⟩
  · have S9:=eq_false hk1
    simp(maxSteps:=400000)only[↓av,ax,BEq.rfl,reduceIte,reduceCtorEq,Nat.reduceLT,reduceAdd,reduceSub,reduceMul,Nat.reduceBEq,reduceLeDiff,Int.reduceToNat,Int.reduceLE,hmn,hlt,↓qC,Int.toNat_natCast,hsub,hg0,S9,Yd]
    have e1:(jA 1 ps).drop (k+1)=jA (i+c) qs:=by
     have:=congrArg List.tail hrw
     simpa [jA,tail_drop,hpc] using this
    have e2:ps.drop (k+1)=qs:=by
     have:=congrArg List.tail hd
     simpa [tail_drop] using this
    have e3:(jA 1 ps)[k]?=some [.int .i64 (i:Int),.int .i64 (i+c:Nat)]:=by
     have:=congrArg (fun l=>l[0]?) hrw
     simpa [jA,hpc] using this
    rw [if_neg hk1] at VZ
    exact ⟨by omega,by omega,hl,ho,rfl,k,VZ,e3,fun O' hI'=>⟨⟨by omega,by omega⟩,qs.length,by omega,k+1,i+c,O',qs,by omega,rfl,by rw [← List.drop_drop];exact h3,e2,e1,hI',by rw [Int.natCast_add k 1];rfl⟩,
     fun O' hJ'=>⟨.inr rfl,.inr ⟨k,by rw [tT];omega,hJ'⟩⟩⟩
end Lp
namespace Lp
open Go Go.Proofs
open List (mem_singleton)
open Nat (reduceAdd reduceLeDiff reduceMul reduceSub)
open Int (reduceLE reduceToNat)
def jo:dD:=fun args objs K=>match args with
 | [a]=>fE ay a (HK.mk:HK fun t=>t.length≤1000000∧K (.bG objs.length 0) (objs++[vS t]) 2)
 | _=>False
theorem vg:aB Tryz.prog 28 jo:=by
 intro args objs K h
 unfold jo at h
 split at h
 · rename_i a
   obtain ⟨t,rfl,hv,hk⟩:=h
   have h:=mE.made (P:=Tryz.prog) (objs:=objs) _ _ rfl (w_ t) (Qg t (by omega))
   exact ⟨_,_,_,h,by simpa [PV.shift,PV.qc] using hk⟩
 · exact h.elim
theorem DK (t:aC):∀ (ps:List aC) (i0 k:Nat) (args:List PV),ps.flatten=(t.drop i0).take ps.flatten.length→(jA i0 ps)[k]?=some args→
  ∃ p o,ps[k]?=some p∧args=[.int .i64 (o:Nat),.int .i64 (o+p.length:Nat)]∧(t.drop o).take p.length=p
 | [],i0,k,args,_,h=>by simp [jA] at h
 | p::ps,i0,0,args,hf,h=>by
  simp only [jA,List.getElem?_cons_zero,Option.some.injEq] at h
  refine ⟨p,i0,rfl,h.symm,?_⟩
  have:=congrArg (List.take p.length) hf
  simp only [List.flatten_cons,List.take_left,List.length_append] at this
  rw [List.take_take,Nat.min_eq_left (by omega)] at this
  exact this.symm
 | p::ps,i0,k+1,args,hf,h=>by
  simp only [jA,List.getElem?_cons_succ] at h
  have:=congrArg (List.drop p.length) hf
  simp only [List.flatten_cons,List.drop_left,List.length_append] at this
  rw [List.drop_take,List.drop_drop,Nat.add_sub_cancel_left] at this
  obtain ⟨q,o,h1,h2,h3⟩:=DK t ps (i0+p.length) k args this h
  exact ⟨q,o,by simpa using h1,h2,h3⟩
def yO (t:aC):Obj:=⟨23,1,[ay t],true,1⟩
def ET (t:aC):List aC→Nat→List Obj
 | [],_=>[yO t,⟨54,1,[.sl 0 [] (some true)],true,1⟩]
 | p::ps,v=>[yO t,⟨54,1,[.bG 2 v],true,1⟩,vR (p::ps) v]
theorem aaZ (t:aC) (l:List aC) (v:Nat):2≤(ET t l v).length∧jQ (ET t l v):=by
 cases l with
 | nil=>
  refine ⟨by simp [ET],?_⟩
  intro o ho x hx c hc
  simp only [ET,yO,List.mem_cons,List.not_mem_nil,or_false] at ho
  rcases ho with rfl | rfl
  · simp only [mem_singleton] at hx;subst hx
    simp only [ay,PV.cells,mem_singleton] at hc;subst hc;rfl
  · simp only [mem_singleton] at hx;subst hx
    simp only [PV.cells,mem_singleton] at hc;subst hc;rfl
 | cons p ps=>
  refine ⟨by simp [ET],?_⟩
  intro o ho x hx c hc
  simp only [ET,yO,vR,List.mem_cons,List.not_mem_nil,or_false] at ho
  rcases ho with rfl | rfl | rfl
  · simp only [mem_singleton] at hx;subst hx
    simp only [ay,PV.cells,mem_singleton] at hc;subst hc;rfl
  · simp only [mem_singleton] at hx;subst hx
    simp only [PV.cells,mem_singleton] at hc;subst hc;simp [ET,PV.vN]
  · simp only [List.mem_map] at hx
    obtain ⟨y,_,rfl⟩:=hx
    simp only [ay,PV.cells,mem_singleton] at hc;subst hc;rfl
theorem Zv (x:dS) (q:aC):(vS (x::q)).live=true∧(vS (x::q)).ver=0∧(vS (x::q)).sz=11∧(vS (x::q)).ty=51∧(vS (x::q)).xs=aK x::q.map aK:=⟨rfl,rfl,rfl,rfl,rfl⟩
theorem aa0 (l:List aC) (v:Nat):(vR l v).live=true∧(vR l v).ver=v∧(vR l v).sz=1∧(vR l v).ty=23∧(vR l v).xs=l.map ay:=⟨rfl,rfl,rfl,rfl,rfl⟩
theorem M4 (k:Nat) (X:List Obj) (x:dS) (q:aC) (ver:Nat) (t:TypeId) (h:X[k]?=some ⟨t,11,aK x::q.map aK,true,ver⟩):eZ 1 k X (.bG k ver)=ay (x::q):=by
 have e:(aK x::q.map aK).map (PV.bI (iU 0 k X))=aK x::q.map aK:=H9 (iU 0 k X) (fun _=>rfl) (x::q)
 simp only [eZ,Nat.lt_irrefl,if_false,iU,h,Nat.le_refl,decide_true,Bool.true_and,beq_self_eq_true,if_true,e]
 rfl
theorem Zw (a b:Obj) (D:List aC) (ver:Nat):eZ 2 0 [a,b,vR D ver] (.bG 2 ver)=cZ D:=by
 simp only [vR,eZ,Nat.not_lt_zero,if_false,iU,List.getElem?_cons_succ,List.getElem?_cons_zero,Nat.zero_le,decide_true,Bool.true_and,beq_self_eq_true,if_true,DI (iU 1 0 _) (fun _=>rfl)]
 rfl
theorem H_ :
  (∀ d X v i f,eZ d 2 X (.bJ 1 v i f)=.bJ 1 v i f)∧(∀ d X v i f,eZ d 3 X (.bJ 1 v i f)=.bJ 1 v i f)∧
  (∀ d n X T t u,fB d n X ⟨T,1,[ay t],true,u⟩=⟨T,1,[ay t],true,u⟩)∧
  (∀ d n X T u,fB d n X ⟨T,1,[.sl 0 [] (some true)],true,u⟩=⟨T,1,[.sl 0 [] (some true)],true,u⟩)∧
  (∀ d X T v u,fB d 3 X ⟨T,1,[.bG 2 v],true,u⟩=⟨T,1,[.bG 2 v],true,u⟩)∧
  (∀ d n X l v,fB d n X (vR l v)=vR l v):=
 ⟨fun _ _ _ _ _=>rfl,fun _ _ _ _ _=>rfl,fun _ _ _ _ _ _=>rfl,fun _ _ _ _ _=>rfl,fun _ _ _ _ _=>rfl,fun d n X l v=>Qd d n X 23 l v⟩
def ab3 (l:List aC):PV:=if l=[] then .sl 0 [] (some true) else cZ l
theorem Ju (t:aC) (ho:Y.One t) (hl:t.length≤1000000):ai Tryz.prog 52 [ay t] [] (ab3 (aF t)) []:=by
 obtain ⟨n,r,ps,hv,hm,hp,hfl,hps,hpo,hmn,GH⟩:=qB t ho
 have hg0:t[0]?=some n:=by rw [hv];rfl
 have hd1:t.drop 1=r:=by rw [hv];rfl
 have hrl:r.length+1=t.length:=by rw [hv];rfl
 have hr:aF t=if n.kind=1 then [] else ps.map Y.jX:=by rw [hv,aF,hpo]
 have hgv:=Ev t n ps ho hl hg0 (by rw [hd1];exact hp) hm
 refine SI.bf (T:=aR Tryz.prog [(63,tV),(28,jo)]) 2 hD (aj (af Eu (af vg ah))) aZ (by decide) fun Q hQ=>?_
 (conv=>arg 4;cbv);simp(maxSteps:=400000)only[↓av,ax,BEq.rfl,reduceIte,reduceCtorEq,Nat.reduceLT,reduceAdd,reduceSub,reduceMul,Nat.reduceBEq,reduceLeDiff,reduceToNat,reduceLE,hQ,↓tV]
 obtain ⟨qs,hqs,hrows⟩:∃ qs:List aC,qs=(if n.kind=1 then [] else ps)∧(if n.kind=1 then [] else jA 1 ps)=jA 1 qs:=by
  by_cases h1:n.kind=1
  · exact ⟨[],by rw [if_pos h1],by rw [if_pos h1];rfl⟩
  · exact ⟨ps,by rw [if_neg h1],by rw [if_neg h1]⟩
 have hr':aF t=qs.map Y.jX:=by
  rw [hr,hqs];split <;> rfl
 have hqf:qs.flatten=(t.drop 1).take qs.flatten.length:=by
  rw [hqs];split
  · rfl
  · rw [hd1,hfl];simp
 have XD:qs.length≤t.length:=by
  rw [hqs];split
  · simp
  · omega
 have aem:∀ p ∈ qs,Y.One p:=by
  rw [hqs];split
  · intro p h;cases h
  · exact hps
 rw [hrows] at hgv
 clear hqs hrows hr
 refine Rq 93 [.addr (ay t)] (jA 1 qs) (fun i O=>∃ ver,i≤qs.length∧O=ET t ((qs.take i).map Y.jX) ver) rfl rfl rfl trivial hgv (DJ qs 1) ⟨0,Nat.zero_le _,rfl⟩ ?_ ?_ ?_
 · rintro i O ⟨ver,_,rfl⟩
   exact aaZ _ _ _
 · rintro i args O ⟨ver,hi,rfl⟩ ha
   obtain ⟨p,o,h1,rfl,h3⟩:=DK t qs 1 i args hqf ha
   have hil:=(List.getElem?_eq_some_iff.1 h1).1
   have htk:(qs.take (i+1)).map Y.jX=(qs.take i).map Y.jX++[Y.jX p]:=by rw [List.take_add_one,h1];simp
   have afe:=(aem p (List.mem_of_getElem? h1)).ne
   obtain ⟨x,q,hpx⟩:∃ x q,p=x::q:=by
    cases p with
    | nil=>exact absurd rfl afe
    | cons x q=>exact ⟨x,q,rfl⟩
   have hxl:p.length=q.length+1:=by rw [hpx];rfl
   have hol:o+p.length≤t.length:=by
    have:=congrArg List.length h3
    rw [List.length_take,List.length_drop] at this
    omega
   have zo:(0≤(o:Int))=True:=eq_true (by omega)
   have c1:((o:Int)≤((o+p.length:Nat):Int))=True:=eq_true (by omega)
   have c2:(((o+p.length:Nat):Int)≤(t.length:Int))=True:=eq_true (by omega)
   have hsl:List.drop o (List.take (o+p.length) t)=p:=by rw [List.drop_take,show o+p.length-o=p.length by omega,h3]
   subst hpx
   simp only [List.length_cons] at c1 c2 hsl hol
   clear hxl
   cases hD:(qs.take i).map Y.jX with
   | nil=>
    unfold ET yO
    simp(maxSteps:=400000)only[↓av,ax,BEq.rfl,reduceIte,reduceCtorEq,Nat.reduceLT,reduceAdd,reduceSub,reduceMul,Nat.reduceBEq,reduceLeDiff,reduceToNat,reduceLE,hQ,qj,knI,↓jo,zo,c1,c2,hsl,Zv,List.set_cons_zero]
    refine ⟨by omega,by omega,?_⟩
    refine aO _ (Weak.freeze 1 2 ?_ _) ?_
    · exact Nat.le_refl _
    have hz:∀ a b:Obj,eZ 1 2 [a,b,⟨51,11,aK { x with name:=[] }::q.map aK,true,0⟩] (.bG 2 0)=ay ({ x with name:=[] }::q):=fun a b=>M4 2 _ _ q 0 _ rfl
    simp(maxSteps:=400000)only[↓av,ax,BEq.rfl,reduceIte,reduceCtorEq,Nat.reduceLT,reduceAdd,reduceSub,reduceMul,Nat.reduceBEq,reduceLeDiff,reduceToNat,reduceLE,hQ,hz,H_,List.take_succ_cons,List.take_zero]
    refine ⟨1,by omega,?_⟩
    rw [htk,hD];rfl
   | cons d ds=>
    unfold ET yO
    simp(maxSteps:=400000)only[↓av,ax,BEq.rfl,reduceIte,reduceCtorEq,Nat.reduceLT,reduceAdd,reduceSub,reduceMul,Nat.reduceBEq,reduceLeDiff,reduceToNat,reduceLE,hQ,qj,knI,↓jo,zo,c1,c2,hsl,Zv,List.set_cons_zero]
    refine ⟨by omega,by omega,?_⟩
    refine aO _ (Weak.freeze 1 3 ?_ _) ?_
    · exact (by decide:2≤3)
    have hz:∀ a b c:Obj,eZ 1 3 [a,b,c,⟨51,11,aK { x with name:=[] }::q.map aK,true,0⟩] (.bG 3 0)=ay ({ x with name:=[] }::q):=fun a b c=>M4 3 _ _ q 0 _ rfl
    have hdl:ds.length≤t.length:=by
     have:=congrArg List.length hD
     simp only [List.length_map,List.length_take,List.length_cons] at this
     omega
    simp(maxSteps:=400000)only[↓av,ax,BEq.rfl,reduceIte,reduceCtorEq,Nat.reduceLT,reduceAdd,reduceSub,reduceMul,Nat.reduceBEq,reduceLeDiff,reduceToNat,reduceLE,hQ,hz,H_,aa0,List.take_succ_cons,List.take_zero]
    refine ⟨by omega,by omega,ver+1,by omega,?_⟩
    rw [htk,hD]
    simp only [List.cons_append,vR,List.map_cons,List.map_append,List.map_nil]
    rfl
 · rintro O ⟨ver,_,rfl⟩
   rw [tT,List.take_length,← hr']
   cases hD:aF t with
   | nil=>
    unfold ET yO
    simp(maxSteps:=400000)only[↓av,ax,BEq.rfl,reduceIte,reduceCtorEq,Nat.reduceLT,reduceAdd,reduceSub,reduceMul,Nat.reduceBEq,reduceLeDiff,reduceToNat,reduceLE,hQ]
    rw [hD];rfl
   | cons d ds=>
    unfold ET yO
    simp(maxSteps:=400000)only[↓av,ax,BEq.rfl,reduceIte,reduceCtorEq,Nat.reduceLT,reduceAdd,reduceSub,reduceMul,Nat.reduceBEq,reduceLeDiff,reduceToNat,reduceLE,hQ]
    rw [hD]
    exact (Zw _ _ _ _).symm
theorem M5 (t:aC) (ho:Y.One t) (hl:t.length≤1000000):ai Tryz.prog 52 [ay t] [] (cZ (aF t)) []:=by
 refine (Ju t ho hl).res ?_
 unfold ab3
 split
 · rename_i h;rw [h];exact sO 0 1
 · exact .refl _
def kF:dD:=fun args objs K=>match args with
 | [a0]=>fE ay a0 (HK.mk:HK fun t=>(Y.One t)∧(t.length≤1000000)∧K (cZ (aF t)) objs 0)
 | _=>False
theorem rV:aB Tryz.prog 52 (kF):=by
 intro args objs K h
 unfold kF at h
 split at h
 · rename_i a0
   obtain ⟨t,rfl,h1,h2,hk⟩:=h
   exact ⟨_,_,_,.pure _ rfl (M5 t h1 h2),hk⟩
 · exact h.elim
end Lp
namespace Lp
open Go Go.Proofs
open Nat (reduceAdd reduceLeDiff reduceMul reduceSub)
open Int (reduceLE reduceToNat)
theorem UO {n:Nat}{l m:List (Nat×PV)}(h:∀ i,l6 l i=l6 m i):dH n l=dH n m:=
 xL (by simp [nO]) fun i hi=>by rw [uL,if_pos hi,h]
theorem Qh (t:aC) (n:dS) (hl:t.length≤1000000) (hg0:t[0]?=some n) (hm:0≤n.many) (hml:1+n.many.toNat≤t.length):ai Tryz.prog 101 [ay t,.int .i64 0] [] (bC (((t.drop 1).take n.many.toNat).map iJ)) []:=by
 refine MC.bf (T:=aR Tryz.prog []) 1 hD (aj ah) aZ (by decide) fun Q hQ=>?_
 have e1:(0:Int)+1=1:=rfl
 have e2:Int.toNat 1=1:=rfl
 have t1:(1+n.many).toNat=1+n.many.toNat:=by omega
 have c1:((1:Int)≤1+n.many)=True:=eq_true (by omega)
 have c2:(1+n.many≤(t.length:Int))=True:=eq_true (by omega)
 have hR:List.drop 1 (List.take (1+n.many.toNat) t)=(t.drop 1).take n.many.toNat:=by rw [List.drop_take];congr 1;omega
 have hRl:((t.drop 1).take n.many.toNat).length=n.many.toNat:=by rw [List.length_take,List.length_drop];omega
 (conv=>arg 4;cbv);simp(maxSteps:=400000)only[↓av,ax,BEq.rfl,reduceIte,reduceCtorEq,Nat.reduceLT,reduceAdd,reduceSub,reduceMul,Nat.reduceBEq,reduceLeDiff,reduceToNat,reduceLE,hQ,hg0,e1,e2,t1,c1,c2,hR]
 generalize (t.drop 1).take n.many.toNat=R at *
 refine ⟨⟨by omega,by omega⟩,?_⟩
 refine Kh (hz:=Nat.zero_le _) ⟨dH 35 [(5,.bG 0 0),(19,ay R),(20,.int .i64 R.length),(21,.int .i64 0)],[⟨29,7,[],true,0⟩]⟩ R.length ?_ ?_ ?_
  (I:=fun m S=>∃ i ver:Nat,i+m=R.length∧S=⟨dH 35 [(5,.bG 0 ver),(19,ay R),(20,.int .i64 R.length),(21,.int .i64 i)],[⟨29,7,((R.take i).map iJ).map bX,true,ver⟩]⟩)
 · simp(maxSteps:=400000)only[↓av,ax,BEq.rfl,reduceIte,reduceCtorEq,Nat.reduceLT,reduceAdd,reduceSub,reduceMul,Nat.reduceBEq,reduceLeDiff,reduceToNat,reduceLE,List.take_nil]
   refine (Weak.D9 5 29 7 (by rfl)).trans ?_
   rw [rM.1,UO (m:=[(5,.bG 0 0),(19,ay R),(20,.int .i64 R.length),(21,.int .i64 0)])]
   · exact Weak.refl _ _
   · intro i
     simp only [l6]
     by_cases h3:i=5
     · subst h3;rfl
     · simp only [h3,if_false]
 · exact ⟨0,0,by omega,rfl⟩
 rintro m S ⟨i,ver,him,rfl⟩
 rcases Nat.lt_or_ge i R.length with h | h
 · have hlt:((i:Int)<(R.length:Int))=True:=eq_true (by omega)
   have hgi:=List.getElem?_eq_getElem h
   generalize R[i]=x at hgi
   have htk:(R.take (i+1)).map iJ=(R.take i).map iJ++[⟨x.n,x.c⟩]:=by rw [List.take_add_one,hgi];simp [iJ]
   have hti:(R.take i).length=i:=by rw [List.length_take];omega
   simp(maxSteps:=400000)only[↓av,ax,BEq.rfl,reduceIte,reduceCtorEq,Nat.reduceLT,reduceAdd,reduceSub,reduceMul,Nat.reduceBEq,reduceLeDiff,reduceToNat,reduceLE,hQ,hlt,hgi,gH,gM,rT,cK,dX,atB,Zl,hti,WL,List.take_succ_cons,List.take_zero]
   refine ⟨by omega,by omega,by omega,⟨by omega,by omega⟩,m-1,by omega,i+1,ver+1,by omega,?_⟩
   have hk:∀ d m O (l:List iA) v,fB d m O ⟨29,7,l.map bX,true,v⟩=⟨29,7,l.map bX,true,v⟩:=fun d m O l v=>by
    have:(l.map bX).map (PV.bI (eZ d m O))=l.map bX:=by rw [List.map_map];exact List.map_congr_left fun x _=>rfl
    simp only [fB,this]
   have e:List.map bX (List.map iJ (List.take i R))++[bX ⟨x.n,x.c⟩]=(((R.take (i+1)).map iJ).map bX):=by rw [htk];simp
   simp only [e,List.map_cons,List.map_nil,hk]
   rfl
 · have hlt:((i:Int)<(R.length:Int))=False:=eq_false (by omega)
   rw [List.take_of_length_le h]
   simp(maxSteps:=400000)only[↓av,ax,BEq.rfl,reduceIte,reduceCtorEq,Nat.reduceLT,reduceAdd,reduceSub,reduceMul,Nat.reduceBEq,reduceLeDiff,reduceToNat,reduceLE,hQ,hlt,FE]
theorem M6 (t:aC) (hl:t.length≤1000000) (ho:Y.One t):ai Tryz.prog 84 [ay t] [] (if Y.kindOf t=1 then bC (bW t) else .sl 0 [] (some true)) []:=by
 obtain ⟨n,r,ps,hv,hm,hp,hfl,hps,hpo,hmn,GH⟩:=qB t ho
 have hg0:t[0]?=some n:=by rw [hv];rfl
 have hkd:Y.kindOf t=n.kind:=by rw [hv];rfl
 rw [hkd]
 by_cases hk:n.kind=1
 · rw [if_pos hk]
   have ha:bW t=((t.drop 1).take n.many.toNat).map iJ:=by rw [hv];simp [bW,hk]
   have hml:1+n.many.toNat≤t.length:=by rw [hv,List.length_cons];omega
   rw [ha]
   have hsp:=Qh t n hl hg0 hm hml
   generalize ((t.drop 1).take n.many.toNat).map iJ=A at *
   have hok:aB Tryz.prog 101 (fun args objs K=>args=[ay t,.int .i64 0]∧K (bC A) objs 0):=by
    rintro args objs K ⟨rfl,hk⟩
    exact ⟨_,_,_,.pure _ rfl hsp,hk⟩
   refine Hq.bf (T:=aR Tryz.prog [(101,_)]) 0 hD (aj (af hok ah)) aZ (by decide) fun Q hQ=>?_
   (conv=>arg 4;cbv);simp(maxSteps:=400000)only[↓av,ax,BEq.rfl,reduceIte,reduceCtorEq,Nat.reduceLT,reduceAdd,reduceSub,reduceMul,Nat.reduceBEq,reduceLeDiff,reduceToNat,reduceLE,hQ,hg0,hk]
 · rw [if_neg hk]
   have hk':=eq_false hk
   refine Hq.bf (T:=aR Tryz.prog []) 0 hD (aj ah) aZ (by decide) fun Q hQ=>?_
   (conv=>arg 4;cbv);simp(maxSteps:=400000)only[↓av,ax,BEq.rfl,reduceIte,reduceCtorEq,Nat.reduceLT,reduceAdd,reduceSub,reduceMul,Nat.reduceBEq,reduceLeDiff,reduceToNat,reduceLE,hQ,hg0,hk']
theorem Jv (t:aC) (hl:t.length≤1000000) (ho:Y.One t):ai Tryz.prog 84 [ay t] [] (bC (bW t)) []:=by
 refine (M6 t hl ho).res ?_
 split
 · exact .refl _
 · rename_i h
   have:bW t=[]:=by
    cases t with
    | nil=>rfl
    | cons n r=>have hk:¬ n.kind=1:=h;simp [bW,hk]
   rw [this]
   exact sO 0 7
def qD:dD:=fun args objs K=>match args with
 | [a0]=>fE ay a0 (HK.mk:HK fun t=>(t.length≤1000000)∧(Y.One t)∧K (bC (bW t)) objs 0)
 | _=>False
theorem Jw:aB Tryz.prog 84 (qD):=by
 intro args objs K h
 unfold qD at h
 split at h
 · rename_i a0
   obtain ⟨t,rfl,h1,h2,hk⟩:=h
   exact ⟨_,_,_,.pure _ rfl (Jv t h1 h2),hk⟩
 · exact h.elim
end Lp
namespace Lp
open Go Go.Proofs
end Lp
namespace Lp
open Go Go.Proofs
end Lp
namespace Lp
open Go Go.Proofs
def Vb:aC:=[⟨0,0,[],[],0,aN⟩]
theorem KD:fo Vb=true:=by decide
theorem M7 {t:aC}(h:fo t=true) (hl:t.length≤100000) (hc:∀ n ∈ t,n.c.s.length≤500000∧n.name.length≤4611686018427387904):zq t:=
 ⟨nQ h,hl,fun n hn=>(hc n hn).1,fun n hn=>(hc n hn).2⟩
theorem acY {t:aC}{k:Nat}(hk:k≤100000) (h:H8 t k=true):zq t∧t.length≤k:=by
 simp only [H8,Bool.and_eq_true,decide_eq_true_eq,List.all_eq_true] at h
 obtain ⟨⟨h1,h2⟩,h3⟩:=h
 simp only [q8,Bool.and_eq_true] at h3
 refine ⟨M7 h3.1 (by omega) fun n hn=>?_,h1⟩
 have:=h2 n hn
 simp only [jR,Bool.and_eq_true,decide_eq_true_eq] at this
 omega
structure Qi (t:aC):Prop where
 len:t.length≤4611686018427387904
 txt:∀ n ∈ t,n.s.length≤4611686018427387904∧n.name.length≤4611686018427387904∧n.c.s.length≤4611686018427387904
 cnm:∀ n ∈ t,n.c.name.length≤4611686018427387904
end Lp
namespace Lp
open Go Go.Proofs Go.RowKit
end Lp
namespace Lp
open Go Go.Proofs
instance :Inhabited Nd:=⟨⟨0,0,[],[],false,0⟩⟩
structure WZ (n:Nd):Prop where
 kind:Iy .i64 n.kind
 many:Iy .i64 n.many
 name:n.name.length≤reachBytes
 s:n.s.length≤reachBytes
 e:Iy .i64 n.e
theorem one_cell {t:TypeId}(hc:Tryz.prog.cellsOf t=1){cs:List Value}{off:Nat}{v:Value}(h:cs[off]?=some v):(cs.drop off).take (Tryz.prog.cellsOf t)=[v]:=by
 rw [hc]
 have hl:=(List.getElem?_eq_some_iff.1 h).1
 rw [show (cs.drop off)=cs[off]::cs.drop (off+1) from List.drop_eq_getElem_cons hl]
 rw [List.getElem?_eq_getElem hl] at h
 cases h
 rw [List.take_succ_cons,List.take_zero]
theorem KE:Tryz.prog.underlying 3=some (.int .i64):=by kernel_rfl
theorem Cj:Tryz.prog.underlying 9=some .string:=by kernel_rfl
theorem acZ:Tryz.prog.underlying 4=some .bool:=by kernel_rfl
theorem KF:Tryz.prog.cellsOf 3=1:=by kernel_rfl
theorem Ck:Tryz.prog.cellsOf 9=1:=by kernel_rfl
theorem ac0:Tryz.prog.cellsOf 4=1:=by kernel_rfl
theorem ac1:∃ fs:Array Field,Tryz.prog.underlying 27=some (.struct fs)∧fs.toList.map (fun f=>(f.offset,f.type))=[(0,3),(1,3),(2,9),(3,9),(4,4),(5,3)]:=
 ⟨Tryz.prog.fieldsOf 27,by kernel_rfl,by kernel_rfl⟩
theorem aa1:Rd Tryz.prog 27 aA WZ:=by
 intro H eh w fuel cs x h hw
 obtain ⟨fs,ht,hfs⟩:=ac1
 obtain ⟨hl,hp⟩:=Bj ht h hw
 rw [hfs] at hp
 have hc:Tryz.prog.cellsOf 27=6:=by kernel_rfl
 rw [hc] at hl
 match cs,hl with
 | [v0,v1,v2,v3,v4,v5],_=>
  obtain ⟨n0,y0,a0,b0⟩:=hp 0 0 3 rfl
  obtain ⟨n1,y1,a1,b1⟩:=hp 1 1 3 rfl
  obtain ⟨n2,y2,a2,b2⟩:=hp 2 2 9 rfl
  obtain ⟨n3,y3,a3,b3⟩:=hp 3 3 9 rfl
  obtain ⟨n4,y4,a4,b4⟩:=hp 4 4 4 rfl
  obtain ⟨n5,y5,a5,b5⟩:=hp 5 5 3 rfl
  rw [one_cell KF (v:=v0) rfl] at a0
  rw [one_cell KF (v:=v1) rfl] at a1
  rw [one_cell Ck (v:=v2) rfl] at a2
  rw [one_cell Ck (v:=v3) rfl] at a3
  rw [one_cell ac0 (v:=v4) rfl] at a4
  rw [one_cell KF (v:=v5) rfl] at a5
  obtain ⟨k,g0,r0⟩:=Rd.int KE eh w n0 _ _ a0 b0
  obtain ⟨m,g1,r1⟩:=Rd.int KE eh w n1 _ _ a1 b1
  obtain ⟨nm,g2,r2⟩:=Rd.str Cj eh w n2 _ _ a2 b2
  obtain ⟨s,g3,r3⟩:=Rd.str Cj eh w n3 _ _ a3 b3
  obtain ⟨g,_,r4⟩:=Rd.bool acZ eh w n4 _ _ a4 b4
  obtain ⟨e,g5,r5⟩:=Rd.int KE eh w n5 _ _ a5 b5
  refine ⟨⟨k,m,nm,s,g,e⟩,⟨g0,g1,g2,g3,g5⟩,rfl,fun i p v h1 h2=>?_⟩
  match i with
  | 0=>simp [aA,PV.cells] at h1 h2;subst h1;subst h2;exact r0.2 0 _ _ rfl rfl
  | 1=>simp [aA,PV.cells] at h1 h2;subst h1;subst h2;exact r1.2 0 _ _ rfl rfl
  | 2=>simp [aA,PV.cells] at h1 h2;subst h1;subst h2;exact r2.2 0 _ _ rfl rfl
  | 3=>simp [aA,PV.cells] at h1 h2;subst h1;subst h2;exact r3.2 0 _ _ rfl rfl
  | 4=>simp [aA,PV.cells] at h1 h2;subst h1;subst h2;exact r4.2 0 _ _ rfl rfl
  | 5=>simp [aA,PV.cells] at h1 h2;subst h1;subst h2;exact r5.2 0 _ _ rfl rfl
  | i+6=>simp [aA,PV.cells] at h1
structure Big (v:Vl):Prop where
 len:v.length≤1152921504606846976
 txt:∀ n ∈ v,n.s.length≤4611686018427387904∧n.name.length≤4611686018427387904
 nd:∀ n ∈ v,WZ n
structure aen (l:List Vl):Prop where
 len:l.length≤1152921504606846976
 all:∀ v ∈ l,Big v
theorem aff {t e:TypeId}{α:Type}{enc:α→PV}{good:α→Prop}(hu:Tryz.prog.underlying t=some (.slice e)) (hr:Rd Tryz.prog t enc good) (h1:∀ a,(enc a).cells=[enc a]){H:Type}{eh:TypeId×Value→H}{w:World}{base:Nat}{v:Value}{d:DataW H}{p:List MemPlace}
  (hv:Value.okWide Tryz.prog w .any base t v) (h:DataW.Trod eh Tryz.prog w 0 (fun _=>true) true t v d p) (hw:∀ n ∈ DataW.weights Tryz.prog t d,n≤reachBytes):∃ a:α,good a∧dB w (fun _=>True) (enc a) v:=by
 obtain ⟨ad,len,cap,rfl⟩:=Go.WideShapes.okWide_slice hu hv
 obtain ⟨fuel,h⟩:=h
 obtain ⟨a,g,r⟩:=hr eh w fuel _ _ h hw
 rw [h1 a] at r
 exact ⟨a,g,r.2 0 _ _ rfl rfl⟩
theorem jq {R:PV→Value→Prop}{p:PV}{ps:List PV}{v:Value}{vs:List Value}(h:R p v) (hs:dh R ps vs):dh R (p::ps) (v::vs):=
 ⟨by simp [hs.1],fun i q u h1 h2=>by
  cases i with
  | zero=>simp at h1 h2;subst h1;subst h2;exact h
  | succ i=>exact hs.2 i q u (by simpa using h1) (by simpa using h2)⟩
theorem Zx {R:PV→Value→Prop}:dh R [] []:=⟨rfl,fun i q u h1=>by simp at h1⟩
end Lp
namespace Lp
open Go Go.Proofs Go.RowKit
structure afw (l:List iA):Prop where
 len:l.length≤1152921504606846976
 all:∀ a ∈ l,tC a.c
end Lp
namespace Lp
open Go Go.Proofs Go.Shelf Go.RowKit Go.Lib Go.ChangeAt
def Zy:List (String×DataW Unit):=[("unicode/utf8.acceptRanges",Lib.acceptData),("unicode/utf8.first",Lib.firstData)]
noncomputable def W9 (os:Os):World:=
 let w0:=World.holding Tryz.prog os ⟨#[],#[],[]⟩
 let put (h:Array Go.Obj) (g:Nat) (cs:Array Value):Array Go.Obj:=h.modify g fun
  | .cells _ t frozen=>.cells cs t frozen
  | o=>o
 let h1:=put w0.heap 0 (Lib.firstTab.map fun z=>Value.int .u8 z).toArray
 let h2:=put h1 1 ((List.range 16).flatMap fun i=>[Value.int .u8 (Lib.accLo i),Value.int .u8 (Lib.accHi i)]).toArray
 { w0 with heap:=h2 }
theorem aeo (os:Os) (args:Array Value):laidMet Tryz.prog Zy ((W9 os).forCall (fun _ _=>0) ⟨#[],args,[]⟩).memory:=
 (LaidIn.of_run (l:=Zy) [1,0] 8 (by kernel_rfl) (by kernel_rfl) (by kernel_rfl) (by kernel_rfl)).met
theorem W_ {w W:World}(h:w.heap=W.heap) (hT:Lib.Utf8Tabs 0 1 W):Lib.Utf8Tabs 0 1 w:=by
 have e:∀ b:Nat,w.heap[b]?=W.heap[b]?:=fun b=>by rw [h]
 refine ⟨fun c hc=>?_,fun i hi=>⟨?_,?_⟩⟩
 · rw [pM (e 0)];exact hT.1 c hc
 · rw [pM (e 1)];exact (hT.2 i hi).1
 · rw [pM (e 1)];exact (hT.2 i hi).2
theorem adq {W:World}(h:laidMetH Tryz.prog Zy W):rD.holds W.heap:=by
 have hT:Lib.Utf8Tabs 0 1 W:=
  utf8Tabs_of_readsT (U8Types.of196 Tryz.LH) ⟨by kernel_rfl,by kernel_rfl,by kernel_rfl,by kernel_rfl,by kernel_rfl,by kernel_rfl,by kernel_rfl⟩ (Lib.laidMet.reads h (.tail _ (.head _))) (Lib.laidMet.reads h (.head _))
 intro w hw
 exact W_ hw hT
structure afD (l:List (List UInt8)):Prop where
 len:l.length≤1152921504606846976
 all:∀ s ∈ l,s.length≤4611686018427387904
end Lp
namespace Lp
open Go Go.Proofs
instance :Inhabited iA:=⟨⟨0,⟨0,0,[],[],false,0⟩⟩⟩
structure afE (a:iA):Prop where
 n:Iy .i64 a.n
 c:WZ a.c
theorem WZ.sm {n:Nd}(h:WZ n):tC n:=by
 have h1:=h.name
 have h2:=h.s
 rw [reachBytes] at h1 h2
 exact ⟨by omega,by omega⟩
section
variable {H:Type}{eh:TypeId×Value→H}{w:World}{base:Nat}{v:Value}{d:DataW H}{p:List MemPlace}
end
end Lp
namespace Lp
open Go Go.Proofs
theorem afg:∃ fs:Array Field,Tryz.prog.underlying 51=some (.struct fs)∧fs.toList.map (fun f=>(f.offset,f.type))=[(0,3),(1,3),(2,9),(3,9),(4,3),(5,27)]:=
 ⟨Tryz.prog.fieldsOf 51,by kernel_rfl,by kernel_rfl⟩
instance :Inhabited dS:=⟨⟨0,0,[],[],0,⟨0,0,[],[],false,0⟩⟩⟩
structure afh (a:dS):Prop where
 name:a.name.length≤reachBytes
 s:a.s.length≤reachBytes
 c:WZ a.c
theorem aep:Rd Tryz.prog 51 aK afh:=by
 intro H eh w fuel cs x h hw
 obtain ⟨fs,ht,hfs⟩:=afg
 obtain ⟨hl,hp⟩:=Bj ht h hw
 rw [hfs] at hp
 have hc:Tryz.prog.cellsOf 51=11:=by kernel_rfl
 rw [hc] at hl
 match cs,hl with
 | [v0,v1,v2,v3,v4,v5,v6,v7,v8,v9,v10],_=>
  obtain ⟨n0,y0,a0,b0⟩:=hp 0 0 3 rfl
  obtain ⟨n1,y1,a1,b1⟩:=hp 1 1 3 rfl
  obtain ⟨n2,y2,a2,b2⟩:=hp 2 2 9 rfl
  obtain ⟨n3,y3,a3,b3⟩:=hp 3 3 9 rfl
  obtain ⟨n4,y4,a4,b4⟩:=hp 4 4 3 rfl
  obtain ⟨n5,y5,a5,b5⟩:=hp 5 5 27 rfl
  have hcd:Tryz.prog.cellsOf 27=6:=by kernel_rfl
  rw [hcd] at a5
  rw [one_cell KF (v:=v0) rfl] at a0
  rw [one_cell KF (v:=v1) rfl] at a1
  rw [one_cell Ck (v:=v2) rfl] at a2
  rw [one_cell Ck (v:=v3) rfl] at a3
  rw [one_cell KF (v:=v4) rfl] at a4
  obtain ⟨k,g0,r0⟩:=Rd.int KE eh w n0 _ _ a0 b0
  obtain ⟨m,g1,r1⟩:=Rd.int KE eh w n1 _ _ a1 b1
  obtain ⟨nm,g2,r2⟩:=Rd.str Cj eh w n2 _ _ a2 b2
  obtain ⟨s,g3,r3⟩:=Rd.str Cj eh w n3 _ _ a3 b3
  obtain ⟨n,g4,r4⟩:=Rd.int KE eh w n4 _ _ a4 b4
  obtain ⟨c,g5,r5⟩:=aa1 eh w n5 _ _ a5 b5
  refine ⟨⟨k,m,nm,s,n,c⟩,⟨g2,g3,g5⟩,?_⟩
  exact jq (r0.2 0 _ _ rfl rfl) (jq (r1.2 0 _ _ rfl rfl) (jq (r2.2 0 _ _ rfl rfl) (jq (r3.2 0 _ _ rfl rfl) (jq (r4.2 0 _ _ rfl rfl)
   (jq (r5.2 0 _ v5 rfl rfl) (jq (r5.2 1 _ v6 rfl rfl) (jq (r5.2 2 _ v7 rfl rfl) (jq (r5.2 3 _ v8 rfl rfl) (jq (r5.2 4 _ v9 rfl rfl) (jq (r5.2 5 _ v10 rfl rfl) Zx))))))))))
theorem ac2:Tryz.prog.underlying 23=some (.slice 51):=by kernel_rfl
theorem aeH:Rd Tryz.prog 23 ay Qi:=by
 intro H eh w fuel cs x h hw
 obtain ⟨v,⟨h1,h2⟩,h3⟩:=Rd.slice (sz:=11) ac2 aep (by kernel_rfl) (by decide) (fun _=>rfl) eh w fuel cs x h hw
 have hb:Tryz.prog.bytesOf 51=120:=by kernel_rfl
 rw [hb,reachBytes] at h1
 refine ⟨v,⟨by omega,fun n hn=>?_,fun n hn=>?_⟩,h3⟩
 · have g:=h2 n hn
   have g1:=g.name
   have g2:=g.s
   have g3:=g.c.s
   rw [reachBytes] at g1 g2 g3
   exact ⟨by omega,by omega,by omega⟩
 · have g:=(h2 n hn).c.name
   rw [reachBytes] at g
   omega
end Lp
namespace Lp
open Go Go.Proofs
end Lp
namespace Lp
open Go Go.Proofs
end Lp
namespace Lp
open Go Go.Proofs
theorem KG:aP Tryz.prog 27 58 [.cell 4 3,.cell 5 4] (gen [] [(0,none)] [] Tryz.f27):=bq Tryz.func27 rfl (by kernel_rfl)
theorem Jy:aP Tryz.prog 11 44 [.tmp 6,.tmp 7] (gen [42] [] [] Tryz.f11):=bq Tryz.func11 rfl (by kernel_rfl)
theorem Jz:aP Tryz.prog 57 46 [.tmp 4] (gen [] [(4134,some (1,2))] [11] Tryz.f57):=bq Tryz.func57 rfl (by kernel_rfl)
theorem EU:aP Tryz.prog 87 28 [.tmp 4] (gen [] [] [1,2] Tryz.f87):=bq Tryz.func87 rfl (by kernel_rfl)
theorem gT:aP Tryz.prog 88 8 [.tmp 2] (gen [5] [] [] Tryz.f88):=bq Tryz.func88 rfl (by kernel_rfl)
theorem Ia:aP Tryz.prog 20 118 [.tmp 4] (gen [] [] [2,4] Tryz.f20):=bq Tryz.func20 rfl (by kernel_rfl)
theorem M8:aP Tryz.prog 56 11 [.tmp 5] (gen [] [] [] Tryz.f56):=bq Tryz.func56 rfl (by kernel_rfl)
theorem Ak:aP Tryz.prog 10 55 [.tmp 0] (gen [] [] [] Tryz.f10):=bq Tryz.func10 rfl (by kernel_rfl)
end Lp
namespace Lp
open Go Go.Proofs
def Zz (c:Vl→Vl→Int):List Vl→Bool
 | a::b::l=>decide (0≤c b a) && Zz c (b::l)
 | _=>true
end Lp
namespace Lp
open Go Go.Proofs
def ZA (v:Vl) (x:Stp):Vl×Int:=
 if x.part then (if Eo v=5 then (match (bP v)[x.n.toNat]? with | some w=>(w,0) | none=>([],6)) else ([],5))
 else if Eo v=6 then (match Zh v x.name with | some w=>(w,0) | none=>([],6)) else ([],5)
def aer:List Stp→Vl→Vl×Int
 | [],v=>(v,0)
 | x::p,v=>if (ZA v x).2=0 then aer p (ZA v x).1 else ([],(ZA v x).2)
def ZB (s:List UInt8) (v:Vl):Vl:=(aer (eD s) v).1
def ZC:Vl→Int
 | []=>0
 | n::_=>n.many
def ZE:Vl→List UInt8
 | []=>[]
 | n::_=>n.s
def aes (g:aC→Vl→Bool) (v:Vl) (names:List (List UInt8)) (ts:List aC):Bool:=(names.zip ts).all fun x=>match Zh v x.1 with | some w=>g x.2 w | none=>false
def afi (g:aC→Vl→Bool) (ts:List aC) (l:List Vl):Bool:=(ts.zip l).all fun x=>g x.1 x.2
def aa2:List UInt8:=[107,101,121]
def ac3:List UInt8:=[118,97,108,117,101]
def afj (g:Vl→Bool) (x:Vl):Bool:=match Zh x aa2,Zh x ac3 with
 | some k,some w=>ZC x==2 && Eo k==4 && g w
 | _,_=>false
def ab4 (g:Vl→Bool):Option (List UInt8)→List Vl→Bool
 | _,[]=>true
 | last,x::l=>afj g x && (match last with | none=>true | some a=>!(Op.bytesLess (ZE (SC x aa2)) a || decide (ZE (SC x aa2)=a))) && ab4 g (some (ZE (SC x aa2))) l
def aeu:Vl→Vl→Int:=jB kZ 1000000
def afk (g:Vl→Bool) (s:List UInt8) (x:Vl):Bool:=Eo x==5 && ZC x !=0 && (bP x).all g && (bP x).all fun y=>ZB s y==ZB s ((bP x).headD [])
def ab5 (g:Vl→Bool) (s:List UInt8):Option Vl→List Vl→Bool
 | _,[]=>true
 | last,x::l=>afk g s x && (match last with | none=>true | some a=>decide (aeu a (ZB s ((bP x).headD []))<0)) && ab5 g s (some (ZB s ((bP x).headD []))) l
def inF:Nat→aC→Vl→Bool
 | f+1,n::r,v=>
  if n.kind=0 then true
  else if n.kind=1 then v.length==1 && cO n.n (bW (n::r)) (v.headD aN)
  else if n.kind=2 then Eo v==6 && aes (inF f) v (gI (n::r)) (aF (n::r)) && (n.n==1 || ZC v==(gI (n::r)).length)
  else if n.kind=3 then Eo v==6 && (bP v).all (inF f ((aF (n::r)).headD []))
  else Eo v==5 && (
   if n.kind=4 then afi (inF f) (aF (n::r)) (bP v) && (bP v).length==(aF (n::r)).length
   else if n.kind=6 then ab4 (inF f ((aF (n::r)).headD [])) none (bP v)
   else if n.kind=8 then ab5 (inF f ((aF (n::r)).headD [])) n.s none (bP v)
   else if n.kind=7 then (bP v).all (inF f ((aF (n::r)).headD [])) && Zz aeu ((bP v).map (ZB n.s))
   else (bP v).all (inF f ((aF (n::r)).headD [])))
 | _,_,_=>false
def inT (t:aC) (v:Vl):Bool:=inF t.length t v
theorem rZ.head {n:dS}{r:aC}(h:rZ bA eD (n::r)) (hk:n.kind=3∨n.kind=5∨n.kind=6∨n.kind=7∨n.kind=8):∃ p,aF (n::r)=[p]∧rZ bA eD p∧p.length≤r.length:=by
 obtain ⟨h1,h2,ps,h3,h4,_⟩:=h.parts
 have hm:n.many=1:=by
  rcases hk with k | k | k | k | k <;> simp [bR,k] at h1 <;> omega
 have hl:=Y.bS _ _ _ h3
 have e:aF (n::r)=ps.map Y.jX:=by
  have:n.kind≠1:=by omega
  simp only [aF,this,if_false,iC h3]
 rw [hm] at hl
 match ps,hl with
 | [p],_=>
  have:=h.part (Y.jX p) (by rw [e];exact List.mem_cons_self ..)
  exact ⟨Y.jX p,by rw [e];rfl,this⟩
end Lp
namespace Lp
open Go Go.Proofs
structure HKT (K:KT):Type where
end Lp
namespace Lp
open Go Go.Proofs
end Lp
namespace Lp
open Go Go.Proofs
theorem Big.small {v:Vl}(h:Big v) (hl:v.length≤1000000):Small v:=⟨hl,h.txt⟩
theorem aen.txt {l:List Vl}(h:aen l):∀ v ∈ l,v.length≤1152921504606846976∧∀ n ∈ v,n.s.length≤4611686018427387904∧n.name.length≤4611686018427387904:=fun v hv=>⟨(h.all v hv).len,(h.all v hv).txt⟩
theorem TI {v:Vl}(hr:Rt v){q:Nd→Prop}(hq:∀ n,q n→q { n with name:=[] }) (hv:∀ n ∈ v,q n):∀ p ∈ bP v,∀ n ∈ p,q n:=by
 obtain ⟨n,r,rfl,_⟩:=FO hr.name hr.one.ne
 obtain ⟨h1,h2,ps,h3,h4,_,_,_⟩:=hr.parts
 simp only [bP,(gq h3).1]
 intro p hp m hm
 obtain ⟨p',hp',rfl⟩:=List.mem_map.1 hp
 have hin:∀ x ∈ p',q x:=fun x hx=>hv x (List.mem_cons_of_mem _ (by rw [← h4];exact List.mem_flatten.2 ⟨p',hp',hx⟩))
 cases p' with
 | nil=>cases hm
 | cons a t=>
  rcases List.mem_cons.1 hm with rfl | hm
  · exact hq a (hin a (by simp))
  · exact hin m (List.mem_cons_of_mem _ hm)
end Lp
namespace Lp
open Go Go.Proofs
end Lp
namespace Lp
open Go Go.Proofs
end Lp
namespace Lp
open Go Go.Proofs
structure KH (v:Vl):Prop where
 rt:Rt v
 len:v.length≤1000000
 nd:∀ n ∈ v,n.s.length≤1000000∧n.name.length≤4611686018427387904
structure aa3 (t:aC):Prop where
 wit:zq t
 ss:∀ n ∈ t,n.s.length≤1000000000
theorem aa3.part {n:dS}{r:aC}(h:aa3 (n::r)):∀ p ∈ aF (n::r),aa3 p∧p.length≤r.length:=by
 intro p hp
 have h1:=h.wit.part p hp
 refine ⟨⟨h1.1,?_⟩,h1.2⟩
 by_cases hk:n.kind=1
 · simp only [aF,hk,if_true] at hp;cases hp
 simp only [aF,hk,if_false] at hp
 obtain ⟨_,_,ps,h3,h4,_⟩:=h.wit.rt.parts
 rw [iC h3] at hp
 obtain ⟨q,hq,rfl⟩:=List.mem_map.1 hp
 have hr:∀ x ∈ q,x ∈ r:=fun x hx=>by rw [← h4];exact List.mem_flatten.2 ⟨q,hq,hx⟩
 intro x hx
 cases q with
 | nil=>cases hx
 | cons y z=>
  rcases List.mem_cons.1 hx with rfl | hx
  · exact h.ss y (List.mem_cons_of_mem _ (hr y (List.mem_cons_self ..)))
  · exact h.ss x (List.mem_cons_of_mem _ (hr x (List.mem_cons_of_mem _ hx)))
theorem KH.part {v:Vl}(h:KH v):∀ p ∈ bP v,KH p∧p.length<v.length:=by
 intro p hp
 have h1:=U2 h.rt hp
 have hl:=h.len
 exact ⟨⟨h1.1,by omega,TI h.rt (q:=fun n=>n.s.length≤1000000∧n.name.length≤4611686018427387904) (fun n h=>⟨h.1,by simp⟩) h.nd p hp⟩,h1.2⟩
theorem KH.ok2 {v:Vl}(h:KH v):Ok2 v:=by
 refine ⟨h.rt.one,h.len,fun n hn hk=>?_⟩
 obtain ⟨i,hi,rfl⟩:=List.mem_iff_getElem.1 hn
 have hp:=(h.rt.good i v[i] (v.drop (i+1)) (List.drop_eq_getElem_cons hi)).1
 simp only [bH,hk,Int.reduceEq,or_self,if_false,if_true,rC,Bool.and_eq_true,decide_eq_true_eq] at hp
 obtain ⟨⟨⟨⟨⟨⟨_,h2⟩,h3⟩,h4⟩,h5⟩,_⟩,_⟩:=hp
 exact ⟨by omega,h2,h4,h5⟩
def aa4 (f:Nat):dD:=fun args objs K=>match args with
 | [a0,a1]=>fE ay a0 (HK.mk:HK fun t=>fE aS a1 (HK.mk:HK fun v=>(t.length≤f)∧(aa3 t)∧(KH v)∧K (.bool (inT t v)) objs 0))
 | _=>False
theorem Xa (p:List Stp) (t:aC):jr p (Y.jX t)=jr p t:=by
 cases t with
 | nil=>rfl
 | cons n r=>cases p <;> rfl
section
variable {f:Nat}(hin:aB Tryz.prog 18 (aa4 f))
include hin
end
end Lp
namespace Lp
open Go Go.Proofs
theorem rZ.key {n:dS}{r p:aC}(h:rZ bA eD (n::r)) (hk:n.kind=7∨n.kind=8) (hp:aF (n::r)=[p]):(jr (eD n.s) p).isSome=true:=by
 obtain ⟨_,_,ps,h3,_,_,h6,_⟩:=h.parts
 have e:aF (n::r)=ps.map Y.jX:=by
  have:n.kind≠1:=by omega
  simp only [aF,this,if_false,iC h3]
 rw [e] at hp
 match ps,hp with
 | [q],hp=>
  simp only [List.map_cons,List.map_nil,List.cons.injEq,and_true] at hp
  subst hp
  rw [Xa]
  simp only [Ap,hk,if_true] at h6
  unfold iY at h6
  cases hl:jr (eD n.s) q with
  | none=>rw [hl] at h6;cases h6
  | some j=>rfl
end Lp
namespace Lp
open Go Go.Proofs
end Lp
namespace Lp
open Go Go.Proofs
end Lp
namespace Lp
open Go Go.Proofs
def TJ (a:iA):dS:=⟨9,0,[],[],a.n,a.c⟩
def Xb (t:aC) (i:Nat) (a:iA):aC:=match t[i]? with
 | some x=>t.take i++({ x with many:=x.many+1 }::((t.drop (i+1)).take x.many.toNat++TJ a::t.drop (i+1+x.many.toNat)))
 | none=>t
theorem Y.Ew (nm:List UInt8):∀ (o:Nat) (ps:List aC) (o':Nat) (q:aC),lQ nm o ps=some (o',q)→∃ A B,ps=A++q::B∧o'=o+A.flatten.length∧Y.nameOf q=nm
 | _,[],_,_,h=>by cases h
 | o,b::ps,o',q,h=>by
  rw [lQ] at h
  split at h
  · rename_i hn;cases h;exact ⟨[],ps,rfl,rfl,hn⟩
  · obtain ⟨A,B,rfl,h2,h3⟩:=Y.Ew nm _ ps o' q h
    exact ⟨b::A,B,rfl,by rw [h2];simp only [List.flatten_cons,List.length_append];omega,h3⟩
section
variable {pk:List UInt8→Bool}{qF:List UInt8→List Stp}
theorem Xc {x:dS}{ps:List aC}(hn:x.many=ps.length) (ho:∀ p ∈ ps,Y.One p) (hg:∀ p ∈ ps,Y.Good (l9 pk qF) p) (hx:l9 pk qF x ps=true):Y.One (x::ps.flatten)∧Y.Good (l9 pk qF) (x::ps.flatten):=by
 refine ⟨Y.One.made hn ho,?_⟩
 intro i m s hd
 cases i with
 | succ i=>exact Y.Good.made ps ho hg i m s (by simpa using hd)
 | zero=>
  simp only [List.drop_zero,List.cons.injEq] at hd
  obtain ⟨rfl,rfl⟩:=hd
  exact ⟨ps,by rw [hn,Int.toNat_natCast];exact Y.gQ ps ho,hx⟩
theorem Qj {p:List Stp}{t:aC}{i:Nat}(h:iY p t=some i):∃ x,t[i]?=some x∧x.kind=1∧jr p t=some i:=by
 unfold iY at h
 cases hl:jr p t with
 | none=>rw [hl] at h;cases h
 | some j=>
  rw [hl] at h
  simp only at h
  split at h
  · rename_i hk
    cases h
    cases hx:t[i]? with
    | none=>rw [hx] at hk;cases hk
    | some x=>rw [hx] at hk;exact ⟨x,rfl,by simpa using hk,rfl⟩
  · cases h
theorem Xd {t:aC}{i:Nat}{x:dS}(hg:Y.Good (l9 pk qF) t) (hx:t[i]?=some x):i+1+x.many.toNat≤t.length:=by
 obtain ⟨hi,rfl⟩:=List.getElem?_eq_some_iff.1 hx
 obtain ⟨ps,h1,_⟩:=hg i t[i] (t.drop (i+1)) (List.drop_eq_getElem_cons hi)
 have:=Y.eO _ _ _ h1
 rw [List.length_drop] at this
 omega
end
end Lp
namespace Lp
open Go Go.Proofs
open List (flatten_cons length_cons mem_singleton)
open Nat (reduceAdd reduceLeDiff reduceMul reduceSub)
open Int (reduceLE reduceToNat)
theorem KI (nm:List UInt8):∀ (o:Nat) (ps:List aC) (i:Nat) (q:aC),ps[i]?=some q→Y.nameOf q=nm→(∀ (j:Nat) q',j<i→ps[j]?=some q'→Y.nameOf q'≠nm)→lQ nm o ps=some (o+(ps.take i).flatten.length,q)
 | _,[],_,_,h,_,_=>by simp at h
 | o,b::ps,0,q,h,hn,_=>by
  simp only [List.getElem?_cons_zero,Option.some.injEq] at h
  subst h
  simp [lQ,hn]
 | o,b::ps,i+1,q,h,hn,hb=>by
  have hbn:Y.nameOf b≠nm:=hb 0 b (by omega) rfl
  rw [lQ,if_neg hbn,KI nm _ ps i q (by simpa using h) hn fun j q' hj hq=>hb (j+1) q' (by omega) (by simpa using hq)]
  simp only [List.take_succ_cons,flatten_cons,List.length_append,Option.some.injEq,Prod.mk.injEq,and_true]
  omega
theorem Qk (nm:List UInt8):∀ (o:Nat) (ps:List aC),(∀ (j:Nat) q',ps[j]?=some q'→Y.nameOf q'≠nm)→lQ nm o ps=none
 | _,[],_=>rfl
 | o,b::ps,hb=>by
  rw [lQ,if_neg (hb 0 b rfl)]
  exact Qk nm _ ps fun j q' hq=>hb (j+1) q' (by simpa using hq)
theorem Ql:∀ (ps:List aC) (i0 k:Nat) (p:aC),ps[k]?=some p→(jA i0 ps)[k]?=some [.int .i64 ((i0+(ps.take k).flatten.length:Nat):Int),.int .i64 ((i0+(ps.take k).flatten.length+p.length:Nat):Int)]
 | [],_,_,_,h=>by simp at h
 | b::ps,i0,0,p,h=>by
  simp only [List.getElem?_cons_zero,Option.some.injEq] at h
  subst h
  simp [jA]
 | b::ps,i0,k+1,p,h=>by
  simp only [jA,List.getElem?_cons_succ]
  rw [Ql ps (i0+b.length) k p (by simpa using h)]
  simp only [List.take_succ_cons,flatten_cons,List.length_append,Nat.add_assoc]
theorem ZF {s:Stp}{p:List Stp}{x:dS}{r:aC}{ps:List aC}{o:Nat}{q:aC}(hpo:Y.partsOf x r=ps) (hfl:ps.flatten=r) (hone:∀ p ∈ ps,Y.One p) (hk:x.kind=2) (hs:s.part=false) (hf:lQ s.name 1 ps=some (o,q)):iY (s::p) (x::r)=(iY p q).map (o+·):=by
 obtain ⟨A,B,hAB,ho,_⟩:=Y.Ew _ _ _ _ _ hf
 have hl:jr (s::p) (x::r)=(jr p q).map (o+·):=by
  rw [jr,if_pos ⟨hk,hs⟩,hpo,hf]
 unfold iY
 rw [hl]
 cases hq:jr p q with
 | none=>rfl
 | some j=>
  simp only [Option.map_some]
  have hqm:q ∈ ps:=by rw [hAB];simp
  have hjl:j<q.length:=by
   have h0:0<q.length:=List.length_pos_iff.2 (hone q hqm).ne
   have:=PK (p:=p) (hone q hqm) h0
   simp only [jM,Y.SK (hone q hqm),hq,Nat.zero_add] at this
   omega
  have e:(x::r)[o+j]?=q[j]?:=by
   rw [← hfl,hAB,ho,show 1+A.flatten.length+j=(A.flatten.length+j)+1 by omega,List.getElem?_cons_succ,List.flatten_append,List.getElem?_append_right (by omega),Nat.add_sub_cancel_left,flatten_cons,List.getElem?_append_left hjl]
  rw [e]
  split <;> simp
def XA (t:aC) (p:List Stp) (n:Int) (b:Bool):List Obj:=[yO t,⟨25,1,[gG p],true,1⟩,⟨3,1,[.int .i64 n],true,1⟩,⟨4,1,[.bool b],true,1⟩]
theorem Qn (t:aC) (p:List Stp) (n:Int) (b:Bool):eX (XA t p n b++[vU,hole]):=by
 intro o ho y hy c hc
 simp only [XA,yO,List.cons_append,List.nil_append,List.mem_cons,List.not_mem_nil,or_false] at ho
 rcases ho with rfl | rfl | rfl | rfl | rfl | rfl
 · simp only [mem_singleton] at hy;subst hy
   simp only [ay,PV.cells,mem_singleton] at hc;subst hc;rfl
 · simp only [mem_singleton] at hy;subst hy
   simp only [gG,PV.cells,mem_singleton] at hc;subst hc;rfl
 · simp only [mem_singleton] at hy;subst hy
   simp only [PV.cells,mem_singleton] at hc;subst hc;rfl
 · simp only [mem_singleton] at hy;subst hy
   simp only [PV.cells,mem_singleton] at hc;subst hc;rfl
 · cases hy
 · cases hy
theorem ZG (t:aC) (p:List Stp) (n:Int) (b:Bool):Gh 4 (XA t p n b++[vU,hole]):=⟨Nat.le_refl _,(Qn t p n b).lt,rfl,rfl⟩
def Ib (t:aC) (p:List Stp):Int:=match iY p t with | some i=>(i:Int) | none=>0
def Cm (p:List Stp):dD:=fun args objs K=>match args with
 | [a,b]=>fE ay a (HK.mk:HK fun q=>b=gG p∧q.length≤1000000∧Y.One q∧K (oJ q p) objs 0)
 | _=>False
theorem Ic:∀ (p:List Stp) (t:aC),t.length≤1000000→Y.One t→p.length≤1000000→ai Tryz.prog 27 [ay t,gG p] [] (oJ t p) []
 | [],t,hl,ho,_=>by
  refine KG.SB (T:=aR Tryz.prog []) 1 hD (aj ah) aZ (by decide) (by decide) fun Q hQ=>?_
  obtain ⟨n,r,ps,hv,hm,hp,hfl,hps,hpo,hmn,GH⟩:=qB t ho
  have hg0:t[0]?=some n:=by rw [hv];rfl
  have hres:oJ t []=.bZ [.int .i64 0,.bool (decide (n.kind=1))]:=by
   simp only [oJ,iY,jr,hg0,Option.map_some,Option.some.injEq]
   by_cases hk:n.kind=1 <;> simp [hk]
  have c00:((0:Nat):Int)=0:=rfl
  (conv=>arg 4;cbv);simp(maxSteps:=400000)only[↓av,ax,BEq.rfl,reduceIte,reduceCtorEq,Nat.reduceLT,reduceAdd,reduceSub,reduceMul,Nat.reduceBEq,reduceLeDiff,reduceToNat,reduceLE,hQ,hg0,c00]
  and_intros <;> first | rfl | decide | exact Nat.le_refl _ | (rw [hres];rfl)
 | s::p,t,hl,ho,hpl=>by
  have hok:aB Tryz.prog 27 (Cm p):=by
   intro args objs K h
   unfold Cm at h
   split at h
   · obtain ⟨q,rfl,rfl,h1,h2,hk⟩:=h
     exact ⟨_,_,_,.pure _ rfl (Ic p q h1 h2 (by simp only [length_cons] at hpl;omega)),hk⟩
   · exact h.elim
  refine KG.SB (T:=aR Tryz.prog [(63,tV),(27,_)]) 1 hD (aj (af Eu (af hok ah))) aZ (by decide) (by decide) fun Q hQ=>?_
  obtain ⟨n,r,ps,hv,hm,hp,hfl,hps,hpo,hmn,GH⟩:=qB t ho
  have hg0:t[0]?=some n:=by rw [hv];rfl
  have hgs:(s::p)[0]?=some s:=rfl
  have hdr:(s::p).drop 1=p:=rfl
  have hpn:(((s::p).length:Int)=0)=False:=eq_false (by simp only [length_cons];omega)
  have hwl:1≤(s::p).length:=by simp
  have hno:¬ (n.kind=2∧s.part=false)→oJ t (s::p)=.bZ [.int .i64 0,.bool false]:=fun h=>by
   have:iY (s::p) t=none:=by rw [hv];simp only [iY,jr];rw [if_neg h]
   simp [oJ,this]
  generalize hsp:s::p=w at *
  by_cases hk:n.kind=2
  rotate_left 1
  · have hk':=eq_false hk
    have hres:=hno fun h=>hk h.1
    (conv=>arg 4;cbv);simp(maxSteps:=400000)only[↓av,ax,BEq.rfl,reduceIte,reduceCtorEq,Nat.reduceLT,reduceAdd,reduceSub,reduceMul,Nat.reduceBEq,reduceLeDiff,reduceToNat,reduceLE,hQ,hg0,hpn,hk']
    and_intros <;> first | rfl | decide | exact Nat.le_refl _ | (rw [hres];rfl)
  cases hpt:s.part with
  | true=>
   have hres:=hno fun h=>by rw [hpt] at h;cases h.2
   (conv=>arg 4;cbv);simp(maxSteps:=400000)only[↓av,ax,BEq.rfl,reduceIte,reduceCtorEq,Nat.reduceLT,reduceAdd,reduceSub,reduceMul,Nat.reduceBEq,reduceLeDiff,reduceToNat,reduceLE,hQ,hg0,hpn,hk,hgs,hpt,Int.reduceEq]
   and_intros <;> first | rfl | decide | exact Nat.le_refl _ | (rw [hres];rfl)
  | false=>
  have hd1:t.drop 1=r:=by rw [hv];rfl
  have hgv:=Ev t n ps ho hl hg0 (by rw [hd1];exact hp) hm
  rw [if_neg (by omega)] at hgv
  (conv=>arg 4;cbv);simp(maxSteps:=400000)only[↓av,ax,BEq.rfl,reduceIte,reduceCtorEq,Nat.reduceLT,reduceAdd,reduceSub,reduceMul,Nat.reduceBEq,reduceLeDiff,reduceToNat,reduceLE,hQ,hg0,hpn,hk,hgs,hpt,Int.reduceEq,↓tV]
  refine Uu 93 [.addr (ay t)] (jA 1 ps)
   (fun i O=>(∀ (j:Nat) q,j<i→ps[j]?=some q→Y.nameOf q≠s.name)∧i≤ps.length∧O=XA t w 0 false++[vU,hole])
   (fun i O=>O=XA t w (Ib t w) (iY w t).isSome++[vU,hole]) .ret rfl rfl rfl rfl trivial hgv (DJ ps 1) ⟨fun j q h=>absurd h (Nat.not_lt_zero j),Nat.zero_le _,rfl⟩ ?_ ?_ ?_ ?_ ?_
  · rintro i O ⟨_,_,rfl⟩
    exact ZG t w 0 false
  · rintro i O rfl
    exact ⟨ZG t w _ _,Qn t w _ _⟩
  · rintro i args O ⟨hb,hi,rfl⟩ ha
    obtain ⟨q,o,hqi,rfl,h3⟩:=DK t ps 1 i args (by rw [hd1,hfl];simp) ha
    have hil:=(List.getElem?_eq_some_iff.1 hqi).1
    have hqo:=hps q (List.mem_of_getElem? hqi)
    have hat:=Ql ps 1 i q hqi
    rw [ha] at hat
    simp only [Option.some.injEq,List.cons.injEq,PV.int.injEq,true_and,and_true] at hat
    have hoo:o=1+(ps.take i).flatten.length:=by omega
    have XD:o+q.length≤t.length:=by
     have:=congrArg List.length h3
     rw [List.length_take,List.length_drop] at this
     have:=List.length_pos_iff.2 hqo.ne
     omega
    obtain ⟨y,q',hqy⟩:∃ y q',q=y::q':=by
     cases q with
     | nil=>exact absurd rfl hqo.ne
     | cons y q'=>exact ⟨y,q',rfl⟩
    have hgo:t[o]?=some y:=by
     have:=congrArg (fun l=>l[0]?) h3
     simp only [hqy,List.getElem?_cons_zero,length_cons] at this
     rw [List.getElem?_take_of_lt (by omega),List.getElem?_drop,Nat.add_zero] at this
     exact this
    have hny:Y.nameOf q=y.name:=by rw [hqy];rfl
    have zo:(0≤(o:Int))=True:=eq_true (by omega)
    have c1:((o:Int)≤((o+q.length:Nat):Int))=True:=eq_true (by omega)
    have c2:(((o+q.length:Nat):Int)≤(t.length:Int))=True:=eq_true (by omega)
    have hsl:List.drop o (List.take (o+q.length) t)=q:=by rw [List.drop_take,show o+q.length-o=q.length by omega,h3]
    unfold XA yO
    by_cases he:y.name=s.name
    · have he':(y.name=s.name)=True:=eq_true he
      have hin:=ZF (s:=s) (p:=p) (hpo) hfl hps hk hpt (KI s.name 1 ps i q hqi (by rw [hny,he]) hb)
      rw [← hv,hsp,← hoo] at hin
      cases hlf:iY p q with
      | none=>
       have hr:oJ q p=.bZ [.int .i64 0,.bool false]:=by simp [oJ,hlf]
       rw [hlf] at hin
       simp(maxSteps:=400000)only[↓av,ax,BEq.rfl,reduceIte,reduceCtorEq,Nat.reduceLT,reduceAdd,reduceSub,reduceMul,Nat.reduceBEq,reduceLeDiff,reduceToNat,reduceLE,hQ,qj,knI,he',zo,c1,c2,hsl,hgo,hgs,hdr,hr,↓Cm,bg,Int.toNat_natCast,List.take_length]
       have hN:Ib t w=0:=by simp [Ib,hin]
       have hS:(iY w t).isSome=false:=by rw [hin];rfl
       have e:XA t w 0 false++[vU,hole]=XA t w (Ib t w) (iY w t).isSome++[vU,hole]:=by rw [hN,hS]
       exact ⟨by omega,Int.le_refl _,by omega,hqo,rfl,e⟩
      | some j=>
       have hr:oJ q p=.bZ [.int .i64 j,.bool true]:=by simp [oJ,hlf]
       rw [hlf] at hin
       have hjl:j<q.length:=by
        obtain ⟨x,hx,_⟩:=Qj hlf
        exact (List.getElem?_eq_some_iff.1 hx).1
       simp(maxSteps:=400000)only[↓av,ax,BEq.rfl,reduceIte,reduceCtorEq,Nat.reduceLT,reduceAdd,reduceSub,reduceMul,Nat.reduceBEq,reduceLeDiff,reduceToNat,reduceLE,hQ,qj,knI,he',zo,c1,c2,hsl,hgo,hgs,hdr,hr,↓Cm,bg,Int.toNat_natCast,List.take_length]
       have hN:Ib t w=(o:Int)+j:=by simp [Ib,hin]
       have hS:(iY w t).isSome=true:=by rw [hin];rfl
       have e:XA t w ((o:Int)+j) true++[vU,hole]=XA t w (Ib t w) (iY w t).isSome++[vU,hole]:=by rw [hN,hS]
       exact ⟨by omega,Int.le_refl _,by omega,hqo,⟨by omega,by omega⟩,rfl,e⟩
    · have he':(y.name=s.name)=False:=eq_false he
      simp(maxSteps:=400000)only[↓av,ax,BEq.rfl,reduceIte,reduceCtorEq,Nat.reduceLT,reduceAdd,reduceSub,reduceMul,Nat.reduceBEq,reduceLeDiff,reduceToNat,reduceLE,hQ,qj,knI,he',zo,hgo,hgs,Int.toNat_natCast]
      refine ⟨fun j q2 hj hq=>?_,by omega,rfl⟩
      rcases Nat.lt_or_ge j i with g | g
      · exact hb j q2 g hq
      · have:j=i:=by omega
        subst this
        rw [hqi] at hq;cases hq;rw [hny];exact he
  · rintro O ⟨hb,hi,rfl⟩
    unfold XA yO
    simp(maxSteps:=400000)only[↓av,ax,BEq.rfl,reduceIte,reduceCtorEq,Nat.reduceLT,reduceAdd,reduceSub,reduceMul,Nat.reduceBEq,reduceLeDiff,reduceToNat,reduceLE,hQ]
    have hres:oJ t w=.bZ [.int .i64 0,.bool false]:=by
     have:iY w t=none:=by
      rw [hv,← hsp]
      have hf:=Qk s.name 1 ps fun j q hq=>hb j q (by rw [tT];exact (List.getElem?_eq_some_iff.1 hq).1) hq
      simp only [iY,jr];rw [hpo,hf];simp
     simp [oJ,this]
    and_intros <;> first | rfl | decide | exact Nat.le_refl _ | (rw [hres];rfl)
  · rintro i O hi rfl
    unfold XA yO
    simp(maxSteps:=400000)only[↓av,ax,BEq.rfl,reduceIte,reduceCtorEq,Nat.reduceLT,reduceAdd,reduceSub,reduceMul,Nat.reduceBEq,reduceLeDiff,reduceToNat,reduceLE,hQ]
    exact ⟨_,_,rfl,rfl,rfl,rfl,Nat.le_refl _,rfl,_,_,rfl,rfl,rfl,rfl,Nat.le_refl _,rfl,rfl⟩
def xg:dD:=fun args objs K=>match args with
 | [a0,a1]=>fE ay a0 (HK.mk:HK fun t=>fE gG a1 (HK.mk:HK fun p=>(t.length≤1000000)∧(Y.One t)∧(p.length≤1000000)∧K (oJ t p) objs 0))
 | _=>False
theorem Qo:aB Tryz.prog 27 (xg):=by
 intro args objs K h
 unfold xg at h
 split at h
 · rename_i a0 a1
   obtain ⟨t,rfl,p,rfl,h1,h2,h3,hk⟩:=h
   exact ⟨_,_,_,.pure _ rfl (Ic p t h1 h2 h3),hk⟩
 · exact h.elim
structure afl (p:List Stp):Prop where
 len:p.length≤4611686018427387904
 txt:∀ s ∈ p,s.name.length≤4611686018427387904
end Lp
namespace Lp
open Go Go.Proofs Go.Lib Go.RowKit
open Nat (mul_le_mul_right one_mul succ_mul)
section
variable {P:Program}
def spl (cur:Array Value) (o:Nat) (vs:List Value):Array Value:=(cur.toList.take o++vs++cur.toList.drop (o+vs.length)).toArray
def mid (cur:Array Value) (i n z:Nat):List Value:=(cur.toList.take (n*z)).drop (i*z)
theorem FI {cur:Array Value}{o:Nat}{vs:List Value}(hl:o+vs.length≤cur.size) (q:Nat) :
  (spl cur o vs)[q]?=if q<o then cur[q]? else if q<o+vs.length then vs[q-o]? else cur[q]?:=by
 have hlen:(cur.toList.take o).length=o:=by simp;omega
 simp only [spl,List.getElem?_toArray,List.append_assoc]
 rw [List.getElem?_append,hlen]
 split
 · rename_i h;rw [List.getElem?_take,if_pos h];simp
 · rename_i h
   rw [List.getElem?_append]
   split
   · rename_i h2;rw [if_pos (by omega)]
   · rename_i h2
     rw [if_neg (by omega),List.getElem?_drop,show o+vs.length+(q-o-vs.length)=q by omega];simp
theorem tX {cur:Array Value}{o:Nat}{vs:List Value}(hl:o+vs.length≤cur.size):(spl cur o vs).size=cur.size:=by
 simp [spl];omega
theorem nX (w:World) (dT sT ty elem:TypeId) (inf:TypeInfo) (g o dLen dCap:Nat) (a:Addr) (sLen sCap n:Nat) (cur:Array Value) (t:TypeId) (cs:List Value)
  (hu:P.underlying dT=some (.slice elem)) (hi:P.info? elem=some inf) (hg:w.heap[g]?=some (.cells cur t (0,0))) (hn:n=Nat.min sLen dLen) (hl:cs.length=n*inf.size)
  (hsrc:∀ j v,cs[j]?=some v→w.cell? (a.add j)=some v) (hfit:o+cs.length≤cur.size) (h1:∀ v ∈ cs,v.oneCell'=true) :
  (Builtin.copy_ #[dT,sT] ty #[.slice (some ⟨g,o,none⟩) dLen dCap,.slice (some a) sLen sCap]).run P w=
   .ok (goInt n) (w.setRow g (spl cur o cs)):=by
 have h2:=run_loadCells_list (P:=P) w a cs hsrc
 have hst:=run_storeCells_at P g o t cs 0 cur w hg (by simpa using hfit) h1
 rw [hl] at h2
 rw [hn] at h2
 simp only [Nat.min_def] at h2
 simp [Builtin.copy_,run_underlying hu,Builtin.lenOf,Builtin.firstCells,Go.sizeOf,typeInfo,hi,hn,Nat.min_def,h2,hst,spl]
theorem Ey {w:World}{g:Nat}{cur:Array Value}{t:TypeId}(hg:w.heap[g]?=some (.cells cur t (0,0))) (o:Nat):w.frozen? ⟨g,o,none⟩=false:=by
 simp [World.frozen?,hg]
theorem ZH {α:Type}(xs:List α) (x:α) (i m:Nat) (hi:i≤xs.length):(xs.take i++[x]++xs.drop i)[m]?=if m<i then xs[m]? else if m=i then some x else xs[m-1]?:=by
 have ht:(xs.take i).length=i:=by simp;omega
 rw [List.append_assoc,List.getElem?_append,ht]
 split
 · rename_i h;rw [List.getElem?_take,if_pos h]
 · rename_i h
   rw [List.getElem?_append]
   split
   · rename_i h2
     have:m=i:=by simp at h2;omega
     rw [if_pos this,this];simp
   · rename_i h2
     simp at h2
     rw [if_neg (by omega),List.getElem?_drop]
     congr 1;simp;omega
theorem bB.aev {R:PV→Value→Prop}{z:Nat}{xs:List PV}{c c':Array Value}{x:PV}{s:List Value}{i:Nat}(h:bB R z c xs) (hs:bB R z ⟨s⟩ [x]) (hi:i≤xs.length)
  (h1:∀ q,q<i*z→c'[q]?=c[q]?) (h2:∀ q,q<z→c'[i*z+q]?=s[q]?) (h3:∀ q,i*z≤q→q<xs.length*z→c'[q+z]?=c[q]?) :
  bB R z c' (xs.take i++[x]++xs.drop i):=by
 intro m y hy
 rw [ZH xs x i m hi] at hy
 have hlt:∀ {u:PV}{j:Nat}{p:PV},u.cells.length=z→u.cells[j]?=some p→j<z:=fun h1 h2=>by rw [← h1];exact (List.getElem?_eq_some_iff.1 h2).1
 split at hy
 · rename_i hm
   obtain ⟨z1,z2⟩:=h m y hy
   refine ⟨z1,fun j p hp=>?_⟩
   have hj:=hlt z1 hp
   have hmz:(m+1)*z≤i*z:=mul_le_mul_right _ hm
   rw [succ_mul] at hmz
   obtain ⟨v,u1,u2⟩:=z2 j p hp
   exact ⟨v,by rw [h1 _ (by omega)];exact u1,u2⟩
 · split at hy
   · rename_i hm
     cases hy
     obtain ⟨z1,z2⟩:=hs 0 x rfl
     refine ⟨z1,fun j p hp=>?_⟩
     have hj:=hlt z1 hp
     obtain ⟨v,u1,u2⟩:=z2 j p hp
     rw [Nat.zero_mul,Nat.zero_add] at u1
     exact ⟨v,by rw [hm,h2 _ hj];simpa using u1,u2⟩
   · rename_i hm1 hm2
     obtain ⟨z1,z2⟩:=h (m-1) y hy
     have hml:m-1<xs.length:=(List.getElem?_eq_some_iff.1 hy).1
     refine ⟨z1,fun j p hp=>?_⟩
     have hj:=hlt z1 hp
     obtain ⟨v,u1,u2⟩:=z2 j p hp
     have e0:m=(m-1)+1:=by omega
     have e:m*z+j=((m-1)*z+j)+z:=by rw [e0,succ_mul,Nat.add_sub_cancel];omega
     have g1:i*z≤(m-1)*z:=mul_le_mul_right _ (by omega)
     have g2:(m-1+1)*z≤xs.length*z:=mul_le_mul_right _ hml
     rw [succ_mul] at g2
     exact ⟨v,by rw [e,h3 _ (by omega) (by omega)];exact u1,u2⟩
structure ac4 (P:Program) (f:FuncId) (sT uT ty:TypeId) (z by':Nat):Prop where
 ent:Enters P f
 shift:∀ (g n c i vb voff vc:Nat) (cur Ie:Array Value) (tv:TypeId) (ss:List Value) (w:World),i<n→n+1≤c→c≤9223372036854775807→
  w.heap[g]?=some (.cells cur ty (0,0))→cur.size=c*z→w.heap[vb]?=some (.cells Ie tv (0,0))→vb≠g→ss.length=z→
  (∀ j v,ss[j]?=some v→w.cell? ⟨vb,voff+j,none⟩=some v)→(∀ v ∈ ss,v.oneCell'=true)→(∀ v ∈ mid cur i n z,v.oneCell'=true)→
  Calls P f #[.slice (some ⟨g,0,none⟩) n c,.int .i64 i,.slice (some ⟨vb,voff,none⟩) 1 vc] w fun e w'=>
   e=.returned (.slice (some ⟨g,0,none⟩) (n+1) c)∧w'=(w.drew.setRow g (spl cur ((i+1)*z) (mid cur i n z))).setRow g (spl (spl cur ((i+1)*z) (mid cur i n z)) (i*z) ss)
 fin:∀ (base:Option Addr) (n c vb voff vc:Nat) (w w':World) (v':Value),(base=none→n=0∧c=0)→n≤c→c≤9223372036854775807→
  (∀ ty',(Builtin.append_ #[sT,uT] ty' #[.slice base n c,.slice (some ⟨vb,voff,none⟩) 1 vc]).run P w=.ok v' w')→
  Calls P f #[.slice base n c,.int .i64 n,.slice (some ⟨vb,voff,none⟩) 1 vc] w fun e w1=>e=.returned v'∧w1=w'
 grow:∀ (g n c i vb voff vc:Nat) (cur:Array Value) (ss:List Value) (w:World),i<n→n≤c→c<n+1→(n+1)*by'≤140737488355328→
  w.heap[g]?=some (.cells cur ty (0,0))→cur.size=c*z→vb<w.heap.size→ss.length=z→
  (∀ j v,ss[j]?=some v→w.cell? ⟨vb,voff+j,none⟩=some v)→(∀ v ∈ ss,v.oneCell'=true)→(∀ v ∈ mid cur i n z,v.oneCell'=true)→
  ∃ row:Array Value,row.size=grownCap w (n+1) c ty*z∧(∀ q,q<i*z→row[q]?=cur[q]?)∧
   Calls P f #[.slice (some ⟨g,0,none⟩) n c,.int .i64 i,.slice (some ⟨vb,voff,none⟩) 1 vc] w fun e w'=>
    e=.returned (.slice (some ⟨w.heap.size,0,none⟩) (n+1) (grownCap w (n+1) c ty))∧
    w'=((((w.drew.alloc (.cells row ty)).setRow w.heap.size (spl row (i*z) ss)).drew).setRow w.heap.size (spl (spl row (i*z) ss) ((i+1)*z) (mid cur i n z)))
variable {base ak:Nat→Prop}{w0:Wz}{blk:Nat→Option Nat}{a:Act}{w:World}
structure Qp (ty:TypeId) (z:Nat) (R:PV→Value→Prop) (old:Option Nat) (w:World) (ys:List PV) (v':Value) (w':World) (gb:Nat):Prop where
 size:w.heap.size≤w'.heap.size
 sm:Sm w w'
 kept:∀ b y,old≠some b→w.heap[b]?=some y→w'.heap[b]?=some y
 at':old=some gb∨w.heap.size≤gb
 cells:∃ cap c,v'=.slice (some ⟨gb,0,none⟩) ys.length cap∧w'.heap[gb]?=some (.cells c ty (0,0))∧ys.length≤cap∧cap≤maxLen∧c.size=cap*z∧bB R z c ys
theorem Qp.rel {tmps:List PV}{objs:List Obj}{k ver:Nat}{ob:Obj}{ys:List PV}{v':Value}{w':World}{gb:Nat}(R:Rel base ak w0 ⟨tmps,objs⟩ blk a w) (h1:objs[k]?=some ob) (h2:ob.live=true) (h3:ob.ver=ver)
  (hM:ob.ty≠MT) (L:Qp ob.ty ob.sz (bD w (bQ base objs blk) objs blk) (blk k) w ys v' w' gb) :
  Rel base ak w0 ⟨tmps,objs.set k { ob with xs:=ys,ver:=ver+1 }⟩ (aG blk k (some gb)) a w'∧
  aV w' (bQ base (objs.set k { ob with xs:=ys,ver:=ver+1 }) (aG blk k (some gb))) (objs.set k { ob with xs:=ys,ver:=ver+1 }) (aG blk k (some gb)) (.bG k (ver+1)) v':=by
 obtain ⟨cap,c,hv,z1,z2,z3,z4,z5⟩:=L.cells
 have hb:aG blk k (some gb) k=some gb:=by unfold aG;rw [if_pos rfl]
 constructor
 · refine R.setObj L.sm (o':={ ob with xs:=ys,ver:=ver+1 }) h1 h2 h2 L.size L.kept (fun g hg=>by cases hg;exact L.at') (by simp;omega) (fun hv=>by simp at hv;omega) (fun hr=>?_)
   refine JZ (gb:=some gb) (R:=bD w (bQ base objs blk) objs blk) hb ?_ hM hr
   exact ⟨cap,c,z1,z2,z4,z5⟩
 · refine ⟨by rw [hv];rfl,{ ob with xs:=ys,ver:=ver+1 },?_,Nat.le_refl _,fun _ _=>⟨hM,?_⟩⟩
   · rw [List.getElem?_set];simp [(List.getElem?_eq_some_iff.1 h1).1]
   · unfold yx
     rw [hb]
     exact ⟨cap,c,hv,z1,z2,z3,z4⟩
theorem ac5 {R:PV→Value→Prop}{p q r:PV}{vs:List Value}(h:dh R [p,q,r] vs):∃ u v x,vs=[u,v,x]∧R p u∧R q v∧R r x:=by
 obtain ⟨hl,h⟩:=h
 match vs,hl with
 | [u,v,x],_=>exact ⟨u,v,x,rfl,h 0 _ _ rfl rfl,h 1 _ _ rfl rfl,h 2 _ _ rfl rfl⟩
theorem FJ {α:Type}(x:Option α):x=none∨∃ g,x=some g:=by cases x with
 | none=>exact .inl rfl
 | some g=>exact .inr ⟨g,rfl⟩
def ZI (z:Nat) (x:PV):Prop:=x.cells.length=z∧x.cells.all PV.storable=true
theorem Xe {f:FuncId}{sT uT:TypeId}{ti:aD}{by':Nat}{objs:List Obj}{k ver:Nat}{ob:Obj}{x:PV}{k2 Qq:Nat}{UQ:Obj}{i:Nat}{tmps:List PV}(W:ac4 P f sT uT ob.ty ob.sz by') (hu:P.underlying sT=some (.slice ob.ty)) (hu2:P.underlying uT=some (.slice ob.ty)) (hD:iK P ob.ty ti) (hk:ti.kind≠.none)
  (hzl:(aI ti).cells.length=ti.size) (hzs:(aI ti).cells.all PV.storable=true) (hsz:ti.size=ob.sz) (hby:ti.bytes=by')
  (R:Rel base ak w0 ⟨tmps,objs⟩ blk a w) (h1:objs[k]?=some ob) (h2:ob.live=true) (h3:ob.ver=ver)
  (g1:objs[k2]?=some UQ) (g2:UQ.live=true) (g3:UQ.ver=Qq) (g4:UQ.sz=ob.sz) (g5:UQ.xs=[x]) (hkk:k2≠k)
  (hall:∀ y ∈ ob.xs,ZI ob.sz y) (hx:ZI ob.sz x) (hi:i≤ob.xs.length) (hb:(ob.xs.length+1)*by'≤140737488355328) (hbm:ob.xs.length+1≤1000000000){v0 v2:Value}
  (r0:aV w (bQ base objs blk) objs blk (.bG k ver) v0) (r2:aV w (bQ base objs blk) objs blk (.bG k2 Qq) v2) :
  Calls P f #[v0,.int .i64 i,v2] w fun e w'=>∃ v' gb,e=.returned v'∧Qp ob.ty ob.sz (bD w (bQ base objs blk) objs blk) (blk k) w (ob.xs.take i++[x]++ob.xs.drop i) v' w' gb:=by
 have hty:=r0.uw h1 h2 h3
 have afm:=r2.uw g1 g2 g3
 have hh:=r0.bG h1 h2 h3
 have hone:∀ y,ZI ob.sz y→∀ p ∈ y.cells,∀ v,bD w (bQ base objs blk) objs blk p v→v.oneCell'=true:=fun y hy p hp v hv=>(mD hv (List.all_eq_true.1 hy.2 p hp)).1
 obtain ⟨vb,vc,Ie,rfl,hgv,hbk2,hvs,hvc,hcs⟩:∃ vb vc Ie,v2=.slice (some ⟨vb,0,none⟩) 1 vc∧w.heap[vb]?=some (.cells Ie UQ.ty (0,0))∧blk k2=some vb∧Ie.size=vc*ob.sz∧1≤vc∧bB (bD w (bQ base objs blk) objs blk) ob.sz Ie [x]:=by
  have hr:=r2.bG g1 g2 g3
  unfold yx at hr
  rcases FJ (blk k2) with hbk | ⟨g,hbk⟩
  · rw [hbk] at hr;rw [g5] at hr;exact absurd hr.2 (by simp)
  · rw [hbk] at hr
    obtain ⟨cap,c,rfl,x1,x2,x3,x4⟩:=hr
    obtain ⟨c',y1,y2,y3⟩:=lT R g1 g2 hbk afm
    rw [x1] at y1;cases y1
    rw [g4] at x4 y3
    rw [g5] at y3 x2 ⊢
    exact ⟨g,cap,c,rfl,x1,hbk,x4,x2,y3⟩
 have afn:vb<w.heap.size:=(Array.getElem?_eq_some_iff.1 hgv).1
 obtain ⟨ss,hss⟩:∃ ss,ss=Ie.toList.take ob.sz:=⟨_,rfl⟩
 have Xf:ss.length=ob.sz:=by
  rw [hss,List.length_take,Array.length_toList,hvs]
  have:=mul_le_mul_right ob.sz hvc
  rw [one_mul] at this
  omega
 have hcell:∀ j v,ss[j]?=some v→w.cell? ⟨vb,0+j,none⟩=some v:=fun j v hj=>by
  rw [hss,List.getElem?_take] at hj
  split at hj
  · simp only [World.cell?,hgv,Nat.zero_add]
    simpa using hj
  · cases hj
 have hcx:bB (bD w (bQ base objs blk) objs blk) ob.sz ⟨ss⟩ [x]:=by
  have:=bB.take hcs
  rw [show [x].length*ob.sz=ob.sz from one_mul _,← hss] at this
  exact this
 have hso:∀ v ∈ ss,v.oneCell'=true:=cells_one hcx (by rw [Xf];exact (one_mul _).symm) (fun y hy=>hone y (by rw [List.mem_singleton.1 hy];exact hx))
 by_cases hin:i=ob.xs.length
 · subst hin
   have hfin:ob.xs.take ob.xs.length++[x]++ob.xs.drop ob.xs.length=ob.xs++[x]:=by simp
   rw [hfin]
   obtain ⟨v',w',gb,q1,q2,q3,q4,q5⟩:=vZ (ty:=sT) (R:=bD w (bQ base objs blk) objs blk) (gOld:=blk k) (v:=v0) (x:=.slice (some ⟨vb,0,none⟩) 1 vc) (xs:=ob.xs) (ys:=[x]) (news:=ss) hu hD hk hzl hzs (by
    unfold yx at hh
    rcases FJ (blk k) with hbk | ⟨g,hbk⟩
    · rw [hbk] at hh ⊢;exact hh
    · rw [hbk] at hh ⊢
      obtain ⟨cap,c,hv,x1,x2,x3,x4⟩:=hh
      obtain ⟨c',y1,y2,y3⟩:=lT R h1 h2 hbk hty
      rw [x1] at y1;cases y1
      exact ⟨cap,c,hv,x1,x2,x3,by rw [hsz];exact x4,by rw [hsz];exact y3⟩) (by rw [hsz];exact Src.ofSlice w hu2 ⟨vb,0,none⟩ 1 vc ss (by rw [Xf];exact (one_mul _).symm) (fun j u hj=>by rw [Addr.add_lit];exact hcell j u hj) hso) (by rw [hsz];exact hcx) (by rw [hby];exact hb) (by simp;omega)
   have hnn:ob.xs++[x]≠[]:=by simp
   have hL:∃ gb,Qp ob.ty ob.sz (bD w (bQ base objs blk) objs blk) (blk k) w (ob.xs++[x]) v' w' gb:=by
    cases gb with
    | none=>exact absurd q5.2 hnn
    | some g=>exact ⟨g,q2.1,q2.2,q3,q4 g rfl,by rw [hsz] at q5;exact q5⟩
   obtain ⟨gb',hL⟩:=hL
   have fin:∀ base' n c,v0=.slice base' n c→n=ob.xs.length→(base'=none→n=0∧c=0)→n≤c→c≤9223372036854775807→
       Calls P f #[v0,.int .i64 ob.xs.length,.slice (some ⟨vb,0,none⟩) 1 vc] w fun e w'=>∃ v' gb,e=.returned v'∧Qp ob.ty ob.sz (bD w (bQ base objs blk) objs blk) (blk k) w (ob.xs++[x]) v' w' gb:=by
    intro base' n c ev en hn hnc hc
    subst ev;subst en
    refine (W.fin base' _ c vb 0 vc w w' v' hn hnc hc fun ty'=>q1).mono fun e w1 ⟨e1,e2⟩=>?_
    subst e2
    exact ⟨v',gb',e1,hL⟩
   unfold yx at hh
   rcases FJ (blk k) with hbk | ⟨g,hbk⟩
   · rw [hbk] at hh;exact fin none 0 0 hh.1 (by rw [hh.2];rfl) (fun _=>⟨rfl,rfl⟩) (Nat.le_refl _) (by decide)
   · rw [hbk] at hh
     obtain ⟨cap,c,hv,x1,x2,x3,x4⟩:=hh
     exact fin _ _ _ hv rfl (fun h=>by cases h) x2 (by unfold maxLen at x3;omega)
 · have hlt:i<ob.xs.length:=by omega
   unfold yx at hh
   rcases FJ (blk k) with hbk | ⟨g,hbk⟩
   · rw [hbk] at hh;rw [hh.2] at hlt;simp at hlt
   · rw [hbk] at hh
     obtain ⟨cap,c,rfl,x1,x2,x3,x4⟩:=hh
     obtain ⟨c',y1,y2,y3⟩:=lT R h1 h2 hbk hty
     rw [x1] at y1;cases y1
     have hc63:cap≤9223372036854775807:=by unfold maxLen at x3;omega
     have hvg:vb≠g:=fun e=>R.objs.Iw k2 k UQ ob vb hkk g1 g2 h1 h2 hbk2 (by rw [hbk,e])
     have m1:(i+1)*ob.sz≤ob.xs.length*ob.sz:=mul_le_mul_right _ hlt
     have m2:ob.xs.length*ob.sz≤cap*ob.sz:=mul_le_mul_right _ x2
     have e1:=succ_mul i ob.sz
     have e2:=succ_mul ob.xs.length ob.sz
     rw [e1] at m1
     have hml:(mid c i ob.xs.length ob.sz).length=ob.xs.length*ob.sz-i*ob.sz:=by
      unfold mid
      rw [List.length_drop,List.length_take,Array.length_toList,x4]
      omega
     have hoc:∀ v ∈ c.toList.take (ob.xs.length*ob.sz),v.oneCell'=true:=by
      refine cells_one (bB.take y3) ?_ (fun y hy=>hone y (hall y hy))
      rw [List.length_take,Array.length_toList,x4]
      omega
     have aew:∀ v ∈ mid c i ob.xs.length ob.sz,v.oneCell'=true:=fun v hv=>hoc v (List.mem_of_mem_drop hv)
     have hdg:∀ q,i*ob.sz≤q→q<ob.xs.length*ob.sz→(mid c i ob.xs.length ob.sz)[q-i*ob.sz]?=c[q]?:=fun q hq1 hq2=>by
      unfold mid
      rw [List.getElem?_drop,List.getElem?_take,show i*ob.sz+(q-i*ob.sz)=q by omega,if_pos hq2];simp
     have hyl:(ob.xs.take i++[x]++ob.xs.drop i).length=ob.xs.length+1:=by simp;omega
     have hmax:ob.xs.length+1≤maxLen:=by unfold maxLen;omega
     by_cases hroom:ob.xs.length+1≤cap
     · have m3:(ob.xs.length+1)*ob.sz≤cap*ob.sz:=mul_le_mul_right _ hroom
       rw [e2] at m3
       refine (W.shift g ob.xs.length cap i vb 0 vc c Ie UQ.ty ss w hlt hroom hc63 x1 x4 hgv hvg Xf hcell hso aew).mono fun e w' ⟨he,hw⟩=>?_
       refine ⟨_,g,he,?_⟩
       rw [e1] at hw
       have hf1:i*ob.sz+ob.sz+(mid c i ob.xs.length ob.sz).length≤c.size:=by rw [hml,x4];omega
       generalize Qr:spl c (i*ob.sz+ob.sz) (mid c i ob.xs.length ob.sz)=iX at hw
       have hs1:iX.size=c.size:=by rw [← Qr];exact tX hf1
       have hg1:=fun q=>Qr ▸ FI hf1 q
       have hf2:i*ob.sz+ss.length≤iX.size:=by rw [hs1,x4,Xf];omega
       generalize Qs:spl iX (i*ob.sz) ss=cur2 at hw
       have hs2:cur2.size=iX.size:=by rw [← Qs];exact tX hf2
       have hg2:=fun q=>Qs ▸ FI hf2 q
       subst hw
       have hgd:w.drew.heap[g]?=some (.cells c ob.ty (0,0)):=x1
       have hh1:(w.drew.setRow g iX).heap[g]?=some (.cells iX ob.ty (0,0)):=setRow_heap w.drew g c iX ob.ty (0,0) hgd
       refine ⟨by rw [setRow_size,setRow_size];exact Nat.le_refl _,⟨rfl,rfl⟩,fun b y hb hy=>?_,.inl hbk,cap,cur2,by rw [hyl],setRow_heap _ g iX cur2 ob.ty (0,0) hh1,by rw [hyl];exact hroom,x3,by rw [hs2,hs1,x4],?_⟩
       · have hbg:b≠g:=fun e=>hb (by rw [hbk,e])
         rw [setRow_other _ g b _ hbg,setRow_other _ g b _ hbg];exact hy
       · refine bB.aev y3 hcx hi (fun q hq=>?_) (fun q hq=>?_) (fun q hq1 hq2=>?_)
         · rw [hg2,if_pos hq,hg1,if_pos (by omega)]
         · rw [hg2,if_neg (by omega),if_pos (by omega),Nat.add_sub_cancel_left]
         · rw [hg2,if_neg (by omega),if_neg (by omega),hg1,if_neg (by omega),if_pos (by omega)]
           rw [← hdg q hq1 hq2];congr 1;omega
     · obtain ⟨row,hrs,hrg,hC⟩:=W.grow g ob.xs.length cap i vb 0 vc c ss w hlt x2 (by omega) hb x1 x4 afn Xf hcell hso aew
       refine hC.mono fun e w' ⟨he,hw⟩=>?_
       refine ⟨_,w.heap.size,he,?_⟩
       have hGn:=grownCap_ge w (ob.xs.length+1) cap ob.ty
       have hGm:=grownCap_le_maxLen w (ob.xs.length+1) cap ob.ty hmax
       generalize grownCap w (ob.xs.length+1) cap ob.ty=G at hrs hGn hGm ⊢
       have m3:(ob.xs.length+1)*ob.sz≤G*ob.sz:=mul_le_mul_right _ hGn
       rw [e2] at m3
       rw [e1] at hw
       have hf1:i*ob.sz+ss.length≤row.size:=by rw [hrs,Xf];omega
       generalize Qr:spl row (i*ob.sz) ss=iX at hw
       have hs1:iX.size=row.size:=by rw [← Qr];exact tX hf1
       have hg1:=fun q=>Qr ▸ FI hf1 q
       have hf2:i*ob.sz+ob.sz+(mid c i ob.xs.length ob.sz).length≤iX.size:=by rw [hml,hs1,hrs];omega
       generalize Qs:spl iX (i*ob.sz+ob.sz) (mid c i ob.xs.length ob.sz)=cur2 at hw
       have hs2:cur2.size=iX.size:=by rw [← Qs];exact tX hf2
       have hg2:=fun q=>Qs ▸ FI hf2 q
       subst hw
       have hN:(w.drew.alloc (.cells row ob.ty)).heap[w.heap.size]?=some (.cells row ob.ty (0,0)):=heap_alloc_new w.drew _
       have hN1:(((w.drew.alloc (.cells row ob.ty)).setRow w.heap.size iX).drew).heap[w.heap.size]?=some (.cells iX ob.ty (0,0)):=setRow_heap _ w.heap.size row iX ob.ty (0,0) hN
       have hgr:kJ w (w.drew.alloc (.cells row ob.ty)):=.push rfl
       refine ⟨by rw [setRow_size];show w.heap.size≤((w.drew.alloc (.cells row ob.ty)).setRow w.heap.size iX).heap.size;rw [setRow_size];exact hgr.1,hgr.2.2,fun b y hb hy=>?_,.inr (Nat.le_refl _),G,cur2,by rw [hyl],setRow_heap _ w.heap.size iX cur2 ob.ty (0,0) hN1,by rw [hyl];exact hGn,hGm,by rw [hs2,hs1,hrs],?_⟩
       · have hbs:b≠w.heap.size:=by have:=(Array.getElem?_eq_some_iff.1 hy).1;omega
         rw [setRow_other _ w.heap.size b _ hbs]
         show ((w.drew.alloc (.cells row ob.ty)).setRow w.heap.size iX).heap[b]?=some y
         rw [setRow_other _ w.heap.size b _ hbs]
         exact hgr.2.1 b y hy
       · refine bB.aev y3 hcx hi (fun q hq=>?_) (fun q hq=>?_) (fun q hq1 hq2=>?_)
         · rw [hg2,if_pos (by omega),hg1,if_pos hq,hrg q hq]
         · rw [hg2,if_pos (by omega),hg1,if_neg (by omega),if_pos (by omega),Nat.add_sub_cancel_left]
         · rw [hg2,if_neg (by omega),if_pos (by omega),← hdg q hq1 hq2]
           congr 1;omega
theorem ZJ {f:FuncId}{sT uT:TypeId}{ti:aD}{by':Nat}{objs:List Obj}{k ver:Nat}{ob:Obj}{x:PV}{k2 Qq:Nat}{UQ:Obj}{i:Nat}(W:ac4 P f sT uT ob.ty ob.sz by') (hu:P.underlying sT=some (.slice ob.ty)) (hu2:P.underlying uT=some (.slice ob.ty)) (hD:iK P ob.ty ti) (hk:ti.kind≠.none)
  (hzl:(aI ti).cells.length=ti.size) (hzs:(aI ti).cells.all PV.storable=true) (hsz:ti.size=ob.sz) (hby:ti.bytes=by')
  (h1:objs[k]?=some ob) (h2:ob.live=true) (h3:ob.ver=ver)
  (g1:objs[k2]?=some UQ) (g2:UQ.live=true) (g3:UQ.ver=Qq) (g4:UQ.sz=ob.sz) (g5:UQ.xs=[x]) (hkk:k2≠k)
  (hall:∀ y ∈ ob.xs,ZI ob.sz y) (hx:ZI ob.sz x) (hi:i≤ob.xs.length) (hb:(ob.xs.length+1)*by'≤140737488355328) (hbm:ob.xs.length+1≤1000000000) :
  Ud P f [.bG k ver,.int .i64 i,.bG k2 Qq] objs (.bG k (ver+1)) (objs.set k { ob with xs:=ob.xs.take i++[x]++ob.xs.drop i,ver:=ver+1 }):=by
 refine ⟨W.ent,by simp,fun base ak w0 tmps blk a w vs R hargs=>?_⟩
 obtain ⟨v0,v1,v2,rfl,r0,r1,r2⟩:=ac5 hargs
 have e1:=r1.int
 subst e1
 refine (Xe W hu hu2 hD hk hzl hzs hsz hby R h1 h2 h3 g1 g2 g3 g4 g5 hkk hall hx hi hb hbm r0 r2).mono fun e w' ⟨v',gb,he,L⟩=>?_
 obtain ⟨e3,e4⟩:=L.rel R h1 h2 h3 (r0.uw h1 h2 h3)
 exact ⟨v',_,he,e3,e4⟩
end
end Lp
namespace Lp
open Go Go.Proofs Go.Lib Go.RowKit
theorem Xg:Tryz.prog.underlying 23=some (.slice 51):=by kernel_rfl
theorem ab6:Tryz.prog.underlying 22=some (.slice 51):=by kernel_rfl
theorem aex:∃ inf,Tryz.prog.info? 51=some inf∧inf.zero=some (Value.agg ⟨[.int .i64 0,.int .i64 0,.string ⟨⟨[]⟩⟩,.string ⟨⟨[]⟩⟩,.int .i64 0,.int .i64 0,.int .i64 0,.string ⟨⟨[]⟩⟩,.string ⟨⟨[]⟩⟩,.bool false,.int .i64 0]⟩)∧inf.size=11∧inf.bytes=120:=⟨_,rfl,rfl,rfl,rfl⟩
theorem ac6 (g n c i vb voff vc:Nat) (cur Ie:Array Value) (tv:TypeId) (ss:List Value) (w:World) (hi:i<n) (hroom:n+1≤c) (hc63:c≤9223372036854775807)
  (hg:w.heap[g]?=some (.cells cur 51 (0,0))) (hcur:cur.size=c*11) (hgv:w.heap[vb]?=some (.cells Ie tv (0,0))) (hvb:vb≠g) (hsl:ss.length=11)
  (hx:∀ j v,ss[j]?=some v→w.cell? ⟨vb,voff+j,none⟩=some v) (os:∀ v ∈ ss,v.oneCell'=true) (oc:∀ v ∈ mid cur i n 11,v.oneCell'=true) :
  Calls Tryz.prog 29 #[.slice (some ⟨g,0,none⟩) n c,.int .i64 i,.slice (some ⟨vb,voff,none⟩) 1 vc] w fun e w'=>
   e=.returned (.slice (some ⟨g,0,none⟩) (n+1) c)∧w'=(w.drew.setRow g (spl cur ((i+1)*11) (mid cur i n 11))).setRow g (spl (spl cur ((i+1)*11) (mid cur i n 11)) (i*11) ss):=by
 have mixed:Tryz.prog.follows .mixedOrders=true:=by kernel_rfl
 have hml:(mid cur i n 11).length=(n-i)*11:=by simp [mid,hcur];omega
 have hz2:¬ ((i:Int)=(n:Int)):=by omega
 have hov:∀ off lb cb,(callFunc 64 #[.slice (some ⟨vb,voff,none⟩) 1 vc,.slice (some ⟨g,off,none⟩) lb cb]).run Tryz.prog w=.ok (.value (.bool false)) w:=fun off lb cb=>by
  rw [run_callFunc_extern Tryz.func64 (by kernel_rfl) (by kernel_rfl) (by kernel_rfl) (e:=Extern.SlicesOverlaps.overlaps #[22,22] #[4]) (by kernel_rfl),
   Lib.run_overlaps_apart w 22 4 51 ab6 11 Tryz.sizeOf51 ⟨vb,voff,none⟩ ⟨g,off,none⟩ 1 vc lb cb hvb tv 51 Ie.size cur.size (by simp [World.shape?,hgv]) (by simp [World.shape?,hg]) (by omega) (Ey hgv _) (Ey hgv _)]
  rfl
 obtain ⟨inf,hi0,hz0,hzs,hzb⟩:=aex
 have hg':w.drew.heap[g]?=some (.cells cur 51 (0,0)):=hg
 have hcp1:∀ ty dc sc,(Builtin.copy_ #[23,23] ty #[.slice (some ⟨g,(i+1)*11,none⟩) (n-i) dc,.slice (some ⟨g,i*11,none⟩) (n+1-i) sc]).run Tryz.prog w.drew=.ok (goInt (n-i:Nat)) (w.drew.setRow g (spl cur ((i+1)*11) (mid cur i n 11))):=fun ty dc sc=>by
  refine nX w.drew 23 23 ty 51 inf g ((i+1)*11) (n-i) dc ⟨g,i*11,none⟩ (n+1-i) sc (n-i) cur 51 _ Xg hi0 hg' (by simp only [Nat.min_def];split <;> omega) (by rw [hzs];omega) (fun j v hj=>?_) (by omega) oc
  rw [Addr.add_lit]
  simp only [World.cell?,hg']
  unfold mid at hj
  rw [List.getElem?_drop,List.getElem?_take] at hj
  split at hj
  · simpa using hj
  · cases hj
 have ZK:(spl cur ((i+1)*11) (mid cur i n 11)).size=c*11:=by rw [tX (by omega)];omega
 generalize spl cur ((i+1)*11) (mid cur i n 11)=iX at hcp1 ZK ⊢
 have hg1:(w.drew.setRow g iX).heap[g]?=some (.cells iX 51 (0,0)):=setRow_heap w.drew g cur iX 51 (0,0) hg'
 have hcp2:∀ ty dc,(Builtin.copy_ #[23,22] ty #[.slice (some ⟨g,i*11,none⟩) (n+1-i) dc,.slice (some ⟨vb,voff,none⟩) 1 vc]).run Tryz.prog (w.drew.setRow g iX)=.ok (goInt (1:Nat)) ((w.drew.setRow g iX).setRow g (spl iX (i*11) ss)):=fun ty dc=>by
  refine nX _ 23 22 ty 51 inf g (i*11) (n+1-i) dc ⟨vb,voff,none⟩ 1 vc 1 iX 51 ss Xg hi0 hg1 (by simp only [Nat.min_def];split <;> omega) (by rw [hzs];omega) (fun j v hj=>?_) (by omega) os
  rw [Addr.add_lit]
  have e:(w.drew.setRow g iX).heap[vb]?=w.heap[vb]?:=setRow_other w.drew g vb iX hvb
  have:(w.drew.setRow g iX).cell? ⟨vb,voff+j,none⟩=w.cell? ⟨vb,voff+j,none⟩:=by simp only [World.cell?,e]
  rw [this]
  exact hx j v hj
 generalize spl iX (i*11) ss=cur2 at hcp2 ⊢
 have hw1:IntKind.i64.wrap ((i:Int)+1)=(i:Int)+1:=by rw [IntKind.wrap_i64];omega
 have hb1:(0:Int)≤(i:Int)+1:=by omega
 have hin:i≤n:=by omega
 have htn:((i:Int)+1).toNat=i+1:=by omega
 have hb2:¬ (c=i+1):=by omega
 have hb3:(i:Int)≤(n:Int)+1:=by omega
 have hb4:¬ (c=i):=by omega
 have hb5:n+1-(i+1)=n-i:=by omega
 clear hml ZK hsl
 go_enter Tryz.func29,Tryz.ntmps29
 go_wp2_with (simp only [hov])
 go_region_law_o (refine step_copy_runI rfl _ _ 23 23 rfl _ _ (by simp [Act.eval,Act.put]) (by simp [Act.eval,Act.put]) (hcp1 _ _ _) ?_)
 go_wp2_with (at_builtin;refine wpList_copy_runI _ rfl _ _ 23 22 rfl _ _ rfl rfl (hcp2 _ _) ?_)
 go_ret
 exact ⟨rfl,rfl⟩
theorem afo (base:Option Addr) (n c vb voff vc:Nat) (w w':World) (v':Value) (hnil:base=none→n=0∧c=0) (hnc:n≤c) (hc63:c≤9223372036854775807)
  (hrun:∀ ty,(Builtin.append_ #[23,22] ty #[.slice base n c,.slice (some ⟨vb,voff,none⟩) 1 vc]).run Tryz.prog w=.ok v' w') :
  Calls Tryz.prog 29 #[.slice base n c,.int .i64 n,.slice (some ⟨vb,voff,none⟩) 1 vc] w fun e w1=>e=.returned v'∧w1=w':=by
 have mixed:Tryz.prog.follows .mixedOrders=true:=by kernel_rfl
 cases base with
 | none=>
  obtain ⟨rfl,rfl⟩:=hnil rfl
  go_enter Tryz.func29,Tryz.ntmps29
  go_wp2_with (at_builtin;refine Lib.wpList_append_run _ rfl _ _ _ _ rfl _ _ rfl rfl _ _ (hrun _) ?_)
  go_ret
  exact ⟨rfl,rfl⟩
 | some a=>
  obtain ⟨ab,ao,asp⟩:=a
  clear hnil
  go_enter Tryz.func29,Tryz.ntmps29
  go_wp2_with (at_builtin;refine Lib.wpList_append_run _ rfl _ _ _ _ rfl _ _ rfl rfl _ _ (hrun _) ?_)
  all_goals (go_ret;exact ⟨rfl,rfl⟩)
theorem aey (g n c i vb voff vc:Nat) (cur:Array Value) (ss:List Value) (w:World) (hi:i<n) (hnc:n≤c) (hroom:c<n+1) (hbig:(n+1)*120≤140737488355328)
  (hg:w.heap[g]?=some (.cells cur 51 (0,0))) (hcur:cur.size=c*11) (hvb:vb<w.heap.size) (hsl:ss.length=11)
  (hx:∀ j v,ss[j]?=some v→w.cell? ⟨vb,voff+j,none⟩=some v) (os:∀ v ∈ ss,v.oneCell'=true) (oc:∀ v ∈ mid cur i n 11,v.oneCell'=true) :
  ∃ row:Array Value,row.size=grownCap w (n+1) c 51*11∧(∀ q,q<i*11→row[q]?=cur[q]?)∧
   Calls Tryz.prog 29 #[.slice (some ⟨g,0,none⟩) n c,.int .i64 i,.slice (some ⟨vb,voff,none⟩) 1 vc] w fun e w'=>
    e=.returned (.slice (some ⟨w.heap.size,0,none⟩) (n+1) (grownCap w (n+1) c 51))∧
    w'=((((w.drew.alloc (.cells row 51)).setRow w.heap.size (spl row (i*11) ss)).drew).setRow w.heap.size (spl (spl row (i*11) ss) ((i+1)*11) (mid cur i n 11))):=by
 have mixed:Tryz.prog.follows .mixedOrders=true:=by kernel_rfl
 obtain ⟨inf,hi0,hz0,hzs,hzb⟩:=aex
 have hgw:g<w.heap.size:=(Array.getElem?_eq_some_iff.1 hg).1
 have hz2:¬ ((i:Int)=(n:Int)):=by omega
 have hz3:(c:Int)<(n:Int)+1:=by omega
 have hik:i+(n+1-i)=n+1:=by omega
 have hkk:(n:Int)+1-(i:Int)=((n+1-i:Nat):Int):=by omega
 have hold:(Builtin.firstCells inf.size i (.slice (some ⟨g,0,none⟩) i c)).run Tryz.prog w.drew=.ok (cur.toList.take (i*11)).toArray w.drew:=by
  rw [hzs]
  refine run_firstCells_some w.drew 11 i ⟨g,0,none⟩ i c (cur.toList.take (i*11)) (by rw [List.length_take,Array.length_toList,hcur];omega) (fun j v hj=>?_)
  rw [List.getElem?_take] at hj
  split at hj
  · rw [add_lit]
    have:(w.drew.heap)[g]?=some (.cells cur 51 (0,0)):=hg
    simp only [World.cell?,this]
    simpa using hj
  · cases hj
 have hGn:n+1≤grownCap w (n+1) c 51:=grownCap_ge w _ _ _
 have hG63:grownCap w (n+1) c 51≤9223372036854775807:=by
  have:=grownCap_le_maxLen w (n+1) c 51 (by unfold maxLen;omega)
  unfold maxLen at this
  omega
 have hrz:∀ ty,(Builtin.append_ #[23,3] ty #[.slice (some ⟨g,0,none⟩) i c,.int .i64 ((n:Int)+1-(i:Int))]).run Tryz.prog w=
     .ok (.slice (some ⟨w.heap.size,0,none⟩) (n+1) (grownCap w (n+1) c 51)) (w.drew.alloc (.cells ((cur.toList.take (i*11)).toArray++Builtin.zeroCells (Value.agg ⟨[.int .i64 0,.int .i64 0,.string ⟨⟨[]⟩⟩,.string ⟨⟨[]⟩⟩,.int .i64 0,.int .i64 0,.int .i64 0,.string ⟨⟨[]⟩⟩,.string ⟨⟨[]⟩⟩,.bool false,.int .i64 0]⟩).cells (n+1-i)++Builtin.zeroCells (Value.agg ⟨[.int .i64 0,.int .i64 0,.string ⟨⟨[]⟩⟩,.string ⟨⟨[]⟩⟩,.int .i64 0,.int .i64 0,.int .i64 0,.string ⟨⟨[]⟩⟩,.string ⟨⟨[]⟩⟩,.bool false,.int .i64 0]⟩).cells (grownCap w (n+1) c 51-(n+1))) 51)):=fun ty=>by
  have h:=Lib.run_append_grow_zeros (P:=Tryz.prog) w 23 3 ty 51 inf _ .i64 .i64 Xg (by kernel_rfl) hi0 hz0 (some ⟨g,0,none⟩) i c (cur.toList.take (i*11)) hold (n+1-i) (by omega) (by omega) (by omega) (by omega) (by rw [hzb];omega) (by rw [hzb,hik];exact growslice_fits hroom hbig)
  rw [hik] at h
  rw [hkk]
  exact h
 generalize grownCap w (n+1) c 51=G at *
 have hrg:∀ q,q<i*11→((cur.toList.take (i*11)).toArray++Builtin.zeroCells (Value.agg ⟨[.int .i64 0,.int .i64 0,.string ⟨⟨[]⟩⟩,.string ⟨⟨[]⟩⟩,.int .i64 0,.int .i64 0,.int .i64 0,.string ⟨⟨[]⟩⟩,.string ⟨⟨[]⟩⟩,.bool false,.int .i64 0]⟩).cells (n+1-i)++Builtin.zeroCells (Value.agg ⟨[.int .i64 0,.int .i64 0,.string ⟨⟨[]⟩⟩,.string ⟨⟨[]⟩⟩,.int .i64 0,.int .i64 0,.int .i64 0,.string ⟨⟨[]⟩⟩,.string ⟨⟨[]⟩⟩,.bool false,.int .i64 0]⟩).cells (G-(n+1)))[q]?=cur[q]?:=fun q hq=>by
  rw [Array.getElem?_append_left (by simp [Builtin.zeroCells,Value.cells,hcur];omega),Array.getElem?_append_left (by simp [hcur];omega)]
  rw [List.getElem?_toArray,List.getElem?_take,if_pos hq];simp
 have hrs:((cur.toList.take (i*11)).toArray++Builtin.zeroCells (Value.agg ⟨[.int .i64 0,.int .i64 0,.string ⟨⟨[]⟩⟩,.string ⟨⟨[]⟩⟩,.int .i64 0,.int .i64 0,.int .i64 0,.string ⟨⟨[]⟩⟩,.string ⟨⟨[]⟩⟩,.bool false,.int .i64 0]⟩).cells (n+1-i)++Builtin.zeroCells (Value.agg ⟨[.int .i64 0,.int .i64 0,.string ⟨⟨[]⟩⟩,.string ⟨⟨[]⟩⟩,.int .i64 0,.int .i64 0,.int .i64 0,.string ⟨⟨[]⟩⟩,.string ⟨⟨[]⟩⟩,.bool false,.int .i64 0]⟩).cells (G-(n+1))).size=G*11:=by
  simp [Builtin.zeroCells,Value.cells,hcur]
  omega
 generalize (cur.toList.take (i*11)).toArray++Builtin.zeroCells (Value.agg ⟨[.int .i64 0,.int .i64 0,.string ⟨⟨[]⟩⟩,.string ⟨⟨[]⟩⟩,.int .i64 0,.int .i64 0,.int .i64 0,.string ⟨⟨[]⟩⟩,.string ⟨⟨[]⟩⟩,.bool false,.int .i64 0]⟩).cells (n+1-i)++Builtin.zeroCells (Value.agg ⟨[.int .i64 0,.int .i64 0,.string ⟨⟨[]⟩⟩,.string ⟨⟨[]⟩⟩,.int .i64 0,.int .i64 0,.int .i64 0,.string ⟨⟨[]⟩⟩,.string ⟨⟨[]⟩⟩,.bool false,.int .i64 0]⟩).cells (G-(n+1))=row at hrz hrg hrs
 refine ⟨row,hrs,hrg,?_⟩
 have hml:(mid cur i n 11).length=(n-i)*11:=by simp [mid,hcur];omega
 obtain ⟨W1,hW1⟩:∃ W1,W1=w.drew.alloc (.cells row 51):=⟨_,rfl⟩
 have hN:W1.heap[w.heap.size]?=some (.cells row 51 (0,0)):=by rw [hW1];exact heap_alloc_new w.drew _
 have hO:∀ b,b<w.heap.size→W1.heap[b]?=w.heap[b]?:=fun b hb=>by
  rw [hW1]
  show (w.drew.heap.push _)[b]?=_
  rw [Array.getElem?_push,if_neg (show ¬ b=w.drew.heap.size from by show ¬ b=w.heap.size;omega)]
  rfl
 rw [← hW1] at hrz ⊢
 have hcpA:∀ ty dc,(Builtin.copy_ #[23,22] ty #[.slice (some ⟨w.heap.size,i*11,none⟩) (n+1-i) dc,.slice (some ⟨vb,voff,none⟩) 1 vc]).run Tryz.prog W1=.ok (goInt (1:Nat)) (W1.setRow w.heap.size (spl row (i*11) ss)):=fun ty dc=>by
  refine nX _ 23 22 ty 51 inf w.heap.size (i*11) (n+1-i) dc ⟨vb,voff,none⟩ 1 vc 1 row 51 ss Xg hi0 hN (by simp only [Nat.min_def];split <;> omega) (by rw [hzs];omega) (fun j v hj=>?_) (by omega) os
  rw [Addr.add_lit]
  have:W1.cell? ⟨vb,voff+j,none⟩=w.cell? ⟨vb,voff+j,none⟩:=by simp only [World.cell?,hO vb hvb]
  rw [this]
  exact hx j v hj
 have ZK:(spl row (i*11) ss).size=G*11:=by rw [tX (by omega)];omega
 generalize spl row (i*11) ss=iX at hcpA ZK ⊢
 have hN1:((W1.setRow w.heap.size iX).drew).heap[w.heap.size]?=some (.cells iX 51 (0,0)):=setRow_heap W1 w.heap.size row iX 51 (0,0) hN
 have hcpB:∀ ty dc sc,(Builtin.copy_ #[23,23] ty #[.slice (some ⟨w.heap.size,(i+1)*11,none⟩) (n-i) dc,.slice (some ⟨g,i*11,none⟩) (n-i) sc]).run Tryz.prog ((W1.setRow w.heap.size iX).drew)=.ok (goInt (n-i:Nat)) (((W1.setRow w.heap.size iX).drew).setRow w.heap.size (spl iX ((i+1)*11) (mid cur i n 11))):=fun ty dc sc=>by
  refine nX _ 23 23 ty 51 inf w.heap.size ((i+1)*11) (n-i) dc ⟨g,i*11,none⟩ (n-i) sc (n-i) iX 51 _ Xg hi0 hN1 (by simp) (by rw [hzs];omega) (fun j v hj=>?_) (by omega) oc
  rw [Addr.add_lit]
  have e:((W1.setRow w.heap.size iX).drew).heap[g]?=some (.cells cur 51 (0,0)):=by
   have:((W1.setRow w.heap.size iX).drew).heap[g]?=W1.heap[g]?:=setRow_other W1 w.heap.size g iX (by omega)
   rw [this,hO g hgw];exact hg
  simp only [World.cell?,e]
  unfold mid at hj
  rw [List.getElem?_drop,List.getElem?_take] at hj
  split at hj
  · simpa using hj
  · cases hj
 generalize spl iX ((i+1)*11) (mid cur i n 11)=cur2 at hcpB ⊢
 have hGi:¬ (G=i):=by omega
 have hGim:¬ (G=i+1):=by omega
 have hci:¬ (c=i):=by omega
 have hw1:IntKind.i64.wrap ((i:Int)+1)=(i:Int)+1:=by rw [IntKind.wrap_i64];omega
 have hw2:IntKind.i64.wrap ((n:Int)+1)=(n:Int)+1:=by rw [IntKind.wrap_i64];omega
 have hw3:IntKind.i64.wrap ((n:Int)+1-(i:Int))=(n:Int)+1-(i:Int):=by rw [IntKind.wrap_i64];omega
 have hb1:(0:Int)≤(i:Int)+1:=by omega
 have hin:i≤n:=by omega
 have htn:((i:Int)+1).toNat=i+1:=by omega
 have hb3:(i:Int)≤(n:Int):=by omega
 have hb5:n+1-(i+1)=n-i:=by omega
 clear hkk hik hold hrs hrg hml ZK hW1 hN hN1 hO hsl
 go_enter Tryz.func29,Tryz.ntmps29
 go_wp2_with (first
  | (at_builtin;refine Lib.wpList_append_run _ rfl _ _ _ _ rfl _ _ rfl rfl _ _ (hrz _) ?_)
  | (at_builtin;refine wpList_copy_runI _ rfl _ _ 23 22 rfl _ _ rfl rfl (hcpA _ _) ?_))
 go_region_law_o (refine step_copy_runI rfl _ _ 23 23 rfl _ _ (by simp [Act.eval,Act.put]) (by simp [Act.eval,Act.put]) (hcpB _ _ _) ?_)
 go_wp2
 go_ret
 exact ⟨rfl,rfl⟩
theorem aez:ac4 Tryz.prog 29 23 22 51 11 120:=⟨⟨_,Tryz.func29,by kernel_rfl,by kernel_rfl⟩,ac6,afo,aey⟩
end Lp
namespace Lp
open Go Go.Proofs
theorem Cn (d n:Nat) (O:List Obj) (t:TypeId) (sz:Nat) (x:dS) (ver:Nat):fB d n O ⟨t,sz,[aK x],true,ver⟩=⟨t,sz,[aK x],true,ver⟩:=UK d n O t sz [x] ver
theorem Qt (d n:Nat) (O:List Obj) (t:TypeId) (sz:Nat) (x:dS) (A B:List dS) (ver:Nat):fB d n O ⟨t,sz,aK x::(A.map aK++B.map aK),true,ver⟩=⟨t,sz,aK x::(A.map aK++B.map aK),true,ver⟩:=by
 rw [← List.map_append];exact UK d n O t sz (x::(A++B)) ver
theorem UR:∀ d X v,eZ d 2 X (.bG 1 v)=.bG 1 v:=fun _ _ _=>rfl
theorem UU (o:Obj) (x:dS) (q:aC) (ver:Nat) (t:TypeId) (rest:List Obj):eZ 1 0 (o::⟨t,11,aK x::q.map aK,true,ver⟩::rest) (.bG 1 ver)=ay (x::q):=by
 have e:(aK x::q.map aK).map (PV.bI (iU 0 0 (o::⟨t,11,aK x::q.map aK,true,ver⟩::rest)))=aK x::q.map aK:=H9 _ (fun _=>rfl) (x::q)
 simp only [eZ,Nat.not_lt_zero,if_false,iU,List.getElem?_cons_succ,List.getElem?_cons_zero,Nat.zero_le,decide_true,Bool.true_and,beq_self_eq_true,if_true,e]
 rfl
theorem Qu (t:dS) (ps:List aC) (hl:ps.length≤100000) (hf:ps.flatten.length≤1000000) :
  ai Tryz.prog 21 [aK t,.sl 0 [] (some true),cZ ps] [] (ay (iZ t ps)) []:=by
 refine BZ.bf (T:=aR Tryz.prog []) 1 hD (aj ah) aZ (by decide) fun Q hQ=>?_
 (conv=>arg 4;cbv);simp(maxSteps:=400000)only[↓av,ax,BEq.rfl,reduceIte,reduceCtorEq,Nat.reduceLT,Nat.reduceAdd,Nat.reduceSub,Nat.reduceMul,Nat.reduceBEq,Nat.reduceLeDiff,Int.reduceToNat,Int.reduceLE,hQ,qH,gH,gM,rT,cK,dX]
 refine aH (fun m S=>∃ (i ver:Nat),i+m=ps.length∧S=⟨dH 56 [(1,.sl 0 [] (some true)),(2,cZ ps),(7,.bG 1 ver),(8,.int .i64 i)],[⟨51,11,[aK { t with many:=ps.length }],true,1⟩,⟨51,11,(({ t with many:=ps.length }:dS)::(ps.take i).flatten).map aK,true,ver⟩]⟩) ps.length (hz:=Nat.zero_le _) ⟨0,1,by omega,?_⟩ ?_
 · simp only [bV,keepR,Nat.reduceAdd,ng,Nat.reduceBEq,List.map_nil]
   rfl
 rintro m S ⟨i,ver,him,rfl⟩
 have zi:(0≤(i:Int))=True:=eq_true (by omega)
 rcases Nat.lt_or_ge i ps.length with h | h
 · have hlt:((i:Int)<(ps.length:Int))=True:=eq_true (by omega)
   have hgi:=List.getElem?_eq_getElem h
   have hpl:(ps.take i).flatten.length+(ps[i]).length≤ps.flatten.length:=by
    have:ps.take (i+1)=ps.take i++[ps[i]]:=by rw [List.take_add_one,hgi];rfl
    have h2:ps.flatten=(ps.take (i+1)).flatten++(ps.drop (i+1)).flatten:=by rw [← List.flatten_append,List.take_append_drop]
    rw [h2,this]
    simp only [List.flatten_append,List.length_append,List.flatten_cons,List.flatten_nil,List.append_nil]
    omega
   generalize hp:ps[i]=p at hgi hpl
   have htk:(ps.take (i+1)).flatten=(ps.take i).flatten++p:=by
    rw [List.take_add_one,hgi];simp
   have c0:((i:Int)<((0:Nat):Int))=False:=eq_false (by omega)
   have c1:((i:Int)<0)=False:=eq_false (by omega)
   simp(maxSteps:=400000)only[↓av,ax,BEq.rfl,reduceIte,reduceCtorEq,Nat.reduceLT,Nat.reduceAdd,Nat.reduceSub,Nat.reduceMul,Nat.reduceBEq,Nat.reduceLeDiff,Int.reduceToNat,Int.reduceLE,hQ,hlt,zi,hgi,c0,c1,Cn,Qt,UR,List.take_succ_cons,List.take_zero]
   exact ⟨rfl,rfl,by omega,by omega,⟨by omega,by omega⟩,m-1,by omega,i+1,ver+1,by omega,by rw [htk,List.map_append,Int.natCast_add,Int.natCast_one,Qt]⟩
 · have hlt:((i:Int)<(ps.length:Int))=False:=eq_false (by omega)
   have hi:i=ps.length:=by omega
   subst hi
   have e:ps.take ps.length=ps:=List.take_length
   simp(maxSteps:=400000)only[↓av,ax,BEq.rfl,reduceIte,reduceCtorEq,Nat.reduceLT,Nat.reduceAdd,Nat.reduceSub,Nat.reduceMul,Nat.reduceBEq,Nat.reduceLeDiff,Int.reduceToNat,Int.reduceLE,hQ,hlt,e,UU]
   rfl
def yj:dD:=fun args objs K=>match args with
 | [a0,a1,a2]=>fE aK a0 (HK.mk:HK fun t=>fE cZ a2 (HK.mk:HK fun ps=>a1=(.sl 0 [] (some true))∧(ps.length≤100000)∧(ps.flatten.length≤1000000)∧K (ay (iZ t ps)) objs 0))
 | _=>False
theorem M9:aB Tryz.prog 21 (yj):=by
 intro args objs K h
 unfold yj at h
 split at h
 · rename_i a0 a1 a2
   obtain ⟨t,rfl,ps,rfl,rfl,h1,h2,hk⟩:=h
   exact ⟨_,_,_,.pure _ rfl (Qu t ps h1 h2),hk⟩
 · exact h.elim
end Lp
namespace Lp
open Go Go.Proofs
def FK:dD:=fun args objs K=>match args with
 | [.bG k ver,.int .i64 i,.bG k2 Qq]=>∃ o,objs[k]?=some o∧o.live=true∧o.ver=ver∧o.sz=11∧o.ty=51∧ofR aK o.xs (HK.mk:HK fun l=>∃ o2,objs[k2]?=some o2∧o2.live=true∧o2.ver=Qq∧o2.sz=11∧¬ k2=k∧ofR aK o2.xs (HK.mk:HK fun fs=>∃ f,fs=[f]∧
     0≤i∧i.toNat≤l.length∧l.length≤1000000∧K (.bG k (ver+1)) (objs.set k ⟨51,11,(l.take i.toNat++[f]++l.drop i.toNat).map aK,true,ver+1⟩) 2))
 | _=>False
theorem TL:aB Tryz.prog 29 FK:=by
 intro args objs K h
 unfold FK at h
 split at h
 · rename_i k ver i k2 Qq
   obtain ⟨o,h1,h2,h3,h4,h5,l,h6,o2,g1,g2,g3,g4,hkk,fs,g5,f,rfl,h7,h8,h9,h10⟩:=h
   obtain ⟨n,rfl⟩:∃ n:Nat,i=n:=⟨i.toNat,by omega⟩
   rw [Int.toNat_natCast] at h8 h10
   obtain ⟨ty,sz,xs,live,vr⟩:=o
   simp only [] at h2 h3 h4 h5 h6
   subst h2;subst h3;subst h4;subst h5;subst h6
   have hu:=ZJ (x:=aK f) (i:=n) (ti:=D 51) (by':=120) aez Xg ab6 (hD _) (by intro h;cases h) rfl rfl rfl rfl h1 rfl rfl g1 g2 g3 g4 g5 hkk (fun y hy=>by obtain ⟨s,_,rfl⟩:=List.mem_map.1 hy;exact ⟨rfl,rfl⟩) ⟨rfl,rfl⟩ (by simpa using h8) (by rw [List.length_map];omega) (by rw [List.length_map];omega)
   refine ⟨_,_,_,.used _ _ hu,?_⟩
   have e:(l.map aK).take n++[aK f]++(l.map aK).drop n=(l.take n++[f]++l.drop n).map aK:=by simp
   rw [e]
   exact h10
 · exact h.elim
theorem afp:(∀ (K:aC→Prop) (a:dS),ofR aK [aK a] (HK.mk:HK K)=K [a])∧(∀ (K:aC→Prop) (l:aC),ofR aK (l.map aK) (HK.mk:HK K)=K l)∧(∀ (K:aC→Prop) (l:aC) (i:Nat) (y:dS),ofR aK ((l.map aK).set i (aK y)) (HK.mk:HK K)=K (l.set i y)):=
 ⟨fun K a=>RY oC K [a],fun K l=>RY oC K l,fun K l i y=>by rw [← List.map_set];exact RY oC K _⟩
theorem aeA (t:aC):(vS t).live=true∧(vS t).ver=0∧(vS t).sz=11∧(vS t).ty=51∧(vS t).xs=t.map aK:=⟨rfl,rfl,rfl,rfl,rfl⟩
theorem ZL {t:aC}{i:Nat}{x:dS}(a:iA) (hx:t[i]?=some x) (hml:i+1+x.many.toNat≤t.length) :
  (t.set i { x with many:=x.many+1 }).take (i+1+x.many.toNat)++[TJ a]++(t.set i { x with many:=x.many+1 }).drop (i+1+x.many.toNat)=Xb t i a:=by
 have hil:=(List.getElem?_eq_some_iff.1 hx).1
 have e:∀ y,t.set i y=t.take i++y::t.drop (i+1):=fun y=>by rw [List.set_eq_take_append_cons_drop,if_pos hil]
 have l1:(t.take i).length=i:=by rw [List.length_take];omega
 have dn:(t.take i).drop (i+1+x.many.toNat)=[]:=List.drop_eq_nil_of_le (by omega)
 have dt:(t.take i).take (i+1+x.many.toNat)=t.take i:=List.take_of_length_le (by omega)
 unfold Xb
 rw [hx]
 simp only
 rw [e,List.take_append,List.drop_append,l1,dn,dt,show i+1+x.many.toNat-i=x.many.toNat+1 by omega,List.take_succ_cons,List.drop_succ_cons,List.drop_drop]
 simp
def Ig (t:aC) (p:List Stp) (a:iA):PV:=match iY p t with
 | some i=>.bZ [ay (Xb t i a),.int .i64 0]
 | none=>.bZ [.sl 0 [] (some true),.int .i64 6]
def ZM (t:aC) (p:List Stp):Prop:=∀ i x,iY p t=some i→t[i]?=some x→0≤x.many∧i+1+x.many.toNat≤t.length
def Qv (t:aC) (p:List Stp) (a:iA):aC×Int:=match iY p t with
 | some i=>(Xb t i a,0)
 | none=>([],6)
theorem Qw (t:aC) (p:List Stp) (a:iA):nC (Ig t p a) (.bZ [ay (Qv t p a).1,.int .i64 (Qv t p a).2]):=by
 unfold Ig Qv
 split
 · exact .refl _
 · exact acJ (.inr rfl) (sO 0 11) (.refl _)
end Lp
namespace Lp
open Go Go.Proofs
theorem Qx (t:aC) (p:List Stp) (a:iA) (hl:t.length≤100000) (ho:Y.One t) (hp:p.length≤1000000) (hm:ZM t p) :
  ai Tryz.prog 11 [ay t,gG p,bX a] [] (Ig t p a) []:=by
 refine Jy.Dj (T:=aR Tryz.prog [(27,xg),(28,jo),(29,FK)]) 1 hD (aj (af Qo (af vg (af TL ah)))) aZ (by decide) (by decide) fun Q hQ=>?_
 cases hlf:iY p t with
 | none=>
  have hr:oJ t p=.bZ [.int .i64 0,.bool false]:=by simp [oJ,hlf]
  have hres:Ig t p a=.bZ [.sl 0 [] (some true),.int .i64 6]:=by simp [Ig,hlf]
  (conv=>arg 4;cbv);simp(maxSteps:=400000)only[↓av,ax,BEq.rfl,reduceIte,reduceCtorEq,Nat.reduceLT,Nat.reduceAdd,Nat.reduceSub,Nat.reduceMul,Nat.reduceBEq,Nat.reduceLeDiff,Int.reduceToNat,Int.reduceLE,hQ,↓xg,hr,hres,bg]
  exact ⟨by omega,ho,hp⟩
 | some i=>
  have hr:oJ t p=.bZ [.int .i64 i,.bool true]:=by simp [oJ,hlf]
  have hres:Ig t p a=.bZ [ay (Xb t i a),.int .i64 0]:=by simp [Ig,hlf]
  obtain ⟨x,hx,hk,_⟩:=Qj hlf
  obtain ⟨hm0,hml⟩:=hm i x hlf hx
  have zi:(0≤(i:Int))=True:=eq_true (by omega)
  have hit:=(List.getElem?_eq_some_iff.1 hx).1
  have hlt:((i:Int)<(t.length:Int))=True:=eq_true (by omega)
  have hsg:∀ y,((t.map aK).set i y)[i]?=some y:=fun y=>List.getElem?_set_self (by rw [List.length_map];omega)
  have hmg:(t.map aK)[i]?=some (aK x):=by rw [List.getElem?_map,hx];rfl
  (conv=>arg 4;cbv);simp(maxSteps:=400000)only[↓av,ax,BEq.rfl,reduceIte,reduceCtorEq,Nat.reduceLT,Nat.reduceAdd,Nat.reduceSub,Nat.reduceMul,Nat.reduceBEq,Nat.reduceLeDiff,Int.reduceToNat,Int.reduceLE,hQ,↓xg,hr,hres,zi,hlt,hsg,hmg,List.length_map,List.length_set,↓jo,aeA,qH,gH,gM,rT,cK,dX,Zl,↓FK,afp,bg,Int.toNat_natCast]
  have e1:((i:Int)+(x.many+1)).toNat=i+1+x.many.toNat:=by omega
  rw [e1]
  exact ⟨by omega,ho,hp,by omega,⟨by omega,by omega⟩,⟨by omega,by omega⟩,by decide,TJ a,rfl,by omega,by omega,by omega,by decide,by rw [ZL a hx hml]⟩
end Lp
namespace Lp
open Go Go.Proofs
def EW (v:List iA):Obj:=⟨29,7,v.map bX,true,0⟩
theorem xh (v:List iA):eX [EW v]:=by
 intro o ho x hx p hp
 simp only [List.mem_singleton] at ho
 subst ho
 simp only [EW,List.mem_map] at hx
 obtain ⟨n,_,rfl⟩:=hx
 simp only [bX,PV.cells,List.mem_cons,List.not_mem_nil,or_false] at hp
 rcases hp with rfl | rfl | rfl | rfl | rfl | rfl | rfl <;> rfl
theorem ZN (d n:Nat) (objs:List Obj) (v:List iA):(v.map bX).map (PV.bI (eZ d n objs))=v.map bX:=by
 rw [List.map_map]
 exact List.map_congr_left fun x _=>rfl
theorem TM:ai Tryz.prog 88 [.sl 7 [] (some true)] [] (.bG 0 0) [EW []]:=by
 refine gT.made (T:=aR Tryz.prog []) 0 hD (aj ah) aZ ?_
 (conv=>arg 4;cbv);simp only [↓zG,Eb,↓AZ,↓yD,↓A7,yE,↓mI,Ec,Db,Nat.reduceAdd,Nat.reduceSub,qU,QS,bL,Fq,Fs,wH,dU,forall_const,reduceCtorEq,false_imp_iff,and_true,TK.slice.injEq,exists_eq',true_and]
 exact ⟨_,0,0,_,Weak.D9 2 29 7 rfl,rfl,rfl,rfl,rfl,rfl,xh []⟩
theorem Qy (v:List iA) (hv:v.length≤1099511627776):ai Tryz.prog 88 [.sl 7 (v.map bX) (some false)] [] (.bG 0 0) [EW v]:=by
 refine gT.made (T:=aR Tryz.prog []) 0 hD (aj ah) aZ ?_
 (conv=>arg 4;cbv);simp only [↓zG,Eb,↓AZ,↓yD,↓A7,yE,↓mI,Ec,Db,Nat.reduceAdd,Nat.reduceSub,qU,QS,bL,Fq,Fs,wH,dU,forall_const,reduceCtorEq,false_imp_iff,and_true,TK.slice.injEq,exists_eq',true_and]
 simp only [bK,dO,mh,newObj,iR,bL,ne_eq,reduceCtorEq,not_false_eq_true,true_and,if_true,List.all_nil,Nat.zero_mul,Nat.zero_le,List.nil_append,List.length_nil,List.getElem?_cons_zero,Option.some.injEq]
 refine ⟨rfl,rfl,rfl,rfl,?_,_,rfl,rfl,rfl,rfl,rfl,?_,?_,fun _ _ h=>h.elim,_,0,2,_,Weak.refl _ _,rfl,rfl,rfl,rfl,?_,xh v⟩
 · intro y hy
   obtain ⟨n,_,rfl⟩:=List.mem_map.1 hy
   exact ⟨rfl,rfl⟩
 · simp;omega
 · simp;omega
 · simp only [fB,EW,List.replicate_zero,List.nil_append,ZN]
theorem Qz (v:List iA) (hv:v.length≤1099511627776):ai Tryz.prog 88 [bC v] [] (.bG 0 0) [EW v]:=
 ai.split (pre:=[]) (post:=[]) (fun h=>by
  have:v=[]:=by simpa using h
  subst this
  exact TM) (Qy v hv)
def yo:dD:=fun args objs K=>match args with
 | [a]=>fE bC a (HK.mk:HK fun t=>t.length≤1000000∧K (.bG objs.length 0) (objs++[EW t]) 2)
 | _=>False
theorem M_:aB Tryz.prog 88 yo:=by
 intro args objs K h
 unfold yo at h
 split at h
 · rename_i a
   obtain ⟨t,rfl,hv,hk⟩:=h
   have h:=mE.made (P:=Tryz.prog) (objs:=objs) _ _ rfl (xh t) (Qz t (by omega))
   exact ⟨_,_,_,h,by simpa [PV.shift,PV.qc] using hk⟩
 · exact h.elim
end Lp
namespace Lp
open Go
def Ez (x:iA):iA:=⟨JP x.n,x.c⟩
def gU (t:aC):Int:=match t with | n::_=>n.n | []=>0
def Ay (t:aC):List UInt8:=match t with | n::_=>n.s | []=>[]
def vL (t:aC):Int:=match t with | n::_=>n.many | []=>0
def rq (t:aC) (A:List iA) (x:iA):Bool:=(kN (gU t) (A++[Ez x])).2
def rW (t u:aC) (k:Nat):Bool:=nk (gU t) k && !nk (gU u) k && (kN ((2 ^ k:Nat):Int) (bW t)).2
def tY (t u:aC):Bool:=!(List.range 5).any (rW t u) && !(bW u).any (rq t (bW t))
def Xh {α:Type}(nm:List UInt8):List (List UInt8×α)→Option α
 | []=>none
 | (k,v)::r=>if k=nm then some v else Xh nm r
def dN (t:aC):List (List UInt8×aC):=(gI t).zip (aF t)
def vk (S:aC→aC→Bool) (t:aC) (p:List UInt8×aC):Bool:=match Xh p.1 (dN t) with | some x=>S x p.2 | none=>false
def xk (S:aC→aC→Bool) (t u:aC):Bool:=(dN u).all (vk S t) && (decide (gU u=1) || decide (gU t=0) && decide (vL t=vL u))
def fu (S:aC→aC→Bool):List aC→List aC→Bool
 | [],[]=>true
 | x::xs,y::ys=>S x y && fu S xs ys
 | _,_=>false
def y0 (u:aC):aC:=(aF u).headD []
def Na (S:aC→aC→Bool) (t u:aC):Bool:=(aF t).all fun p=>S p (y0 u)
def Co (nm:List UInt8):aC→aC
 | []=>[]
 | n::r=>{ n with name:=nm }::r
def Ih:List UInt8:=[107,101,121]
def oU:List UInt8:=[118,97,108,117,101]
def EX (t:aC):aC:=⟨2,2,[],[],0,aN⟩::⟨1,0,Ih,[],16,aN⟩::Co oU t
def mY (S:aC→aC→Bool) (t u:aC):Bool:=
 if Y.kindOf t=1∧Y.kindOf u=1 then tY t u
 else if Y.kindOf t=2∧Y.kindOf u=2 then xk S t u
 else if Y.kindOf t=3∧Y.kindOf u=2 then decide (gU u=1) && decide ((aF u).length=0)
 else if Y.kindOf t=2∧Y.kindOf u=3 then decide (gU t=0) && Na S t u
 else if (Y.kindOf t=4∨Y.kindOf t=7∨Y.kindOf t=5)∧Y.kindOf u=5 then Na S t u
 else if Y.kindOf t=8∧Y.kindOf u=5 then S (iZ ⟨5,0,[],[],0,aN⟩ (aF t)) (y0 u)
 else if Y.kindOf t=6∧Y.kindOf u=5 then S (EX (y0 t)) (y0 u)
 else if Y.kindOf u=0 then true
 else decide (Y.kindOf t=Y.kindOf u) && decide (Ay t=Ay u) && fu S (aF t) (aF u)
def Xi:Nat→aC→aC→Bool
 | 0,_,_=>false
 | f+1,t,u=>mY (Xi f) t u
def gP (t u:aC):Bool:=Xi u.length t u
variable {pk:List UInt8→Bool}{qF:List UInt8→List Stp}
theorem ac7 {u:aC}(h:aF u≠[]):y0 u ∈ aF u:=by
 unfold y0
 cases hp:aF u with
 | nil=>exact absurd hp h
 | cons a l=>simp
theorem rZ.xq {u:aC}(h:rZ pk qF u) (hk:Y.kindOf u=3∨Y.kindOf u=5∨Y.kindOf u=6∨Y.kindOf u=7∨Y.kindOf u=8):∃ p,aF u=[p]:=by
 cases u with
 | nil=>exact absurd rfl h.one.ne
 | cons n r=>
  have hk':n.kind=3∨n.kind=5∨n.kind=6∨n.kind=7∨n.kind=8:=hk
  obtain ⟨h1,h2,ps,h3,_⟩:=h.parts
  have hm:n.many=1:=by
   rcases hk' with e | e | e | e | e <;> simp [bR,e] at h1 <;> simp only [and_assoc] at h1 <;> exact h1.1
  have hl:=Y.bS _ _ _ h3
  have:n.kind≠1:=by omega
  simp only [aF,this,if_false,iC h3]
  rw [hm] at hl
  match ps,hl with
  | [p],_=>exact ⟨_,rfl⟩
theorem sub_congr {S S':aC→aC→Bool}{t u:aC}(hu:rZ pk qF u) (h:∀ x y,y ∈ aF u→S x y=S' x y):mY S t u=mY S' t u:=by
 have hy:(Y.kindOf u=3∨Y.kindOf u=5)→∀ x,S x (y0 u)=S' x (y0 u):=fun hk x=>by
  obtain ⟨p,hp⟩:=hu.xq (by omega)
  exact h x _ (ac7 (by rw [hp];simp))
 have ha:(Y.kindOf u=3∨Y.kindOf u=5)→Na S t u=Na S' t u:=fun hk=>by
  unfold Na
  congr 1
  funext p
  exact hy hk p
 have hp:∀ xs ys:List aC,(∀ y ∈ ys,y ∈ aF u)→fu S xs ys=fu S' xs ys:=by
  intro xs
  induction xs with
  | nil=>intro ys _;cases ys <;> rfl
  | cons x xs ih=>
   intro ys hys
   cases ys with
   | nil=>rfl
   | cons y ys=>
    simp only [fu]
    rw [h x y (hys y (List.mem_cons_self ..)),ih ys fun z hz=>hys z (List.mem_cons_of_mem _ hz)]
 have ho:xk S t u=xk S' t u:=by
  unfold xk
  have:(dN u).all (vk S t)=(dN u).all (vk S' t):=by
   rw [Bool.eq_iff_iff,List.all_eq_true,List.all_eq_true]
   have e:∀ p ∈ dN u,vk S t p=vk S' t p:=fun p hpm=>by
    unfold vk
    cases Xh p.1 (dN t) with
    | none=>rfl
    | some x=>exact h x p.2 (List.of_mem_zip (a:=p.1) (b:=p.2) hpm).2
   exact ⟨fun g p hp=>by rw [← e p hp];exact g p hp,fun g p hp=>by rw [e p hp];exact g p hp⟩
  rw [this]
 unfold mY
 split
 · rfl
 split
 · exact ho
 split
 · rfl
 split
 · rename_i c;rw [ha (.inl c.2)]
 split
 · rename_i c;rw [ha (.inr c.2)]
 split
 · rename_i c;exact hy (.inr c.2) _
 split
 · rename_i c;exact hy (.inr c.2) _
 split
 · rfl
 · rw [hp _ _ fun y hy=>hy]
theorem KJ:∀ (f g:Nat) (t u:aC),u.length≤f→u.length≤g→rZ pk qF u→Xi f t u=Xi g t u
 | 0,_,_,u,h,_,hr=>by have:=hr.one.ne;cases u <;> simp at h this
 | f+1,0,_,u,_,h,hr=>by have:=hr.one.ne;cases u <;> simp at h this
 | f+1,g+1,_,[],_,_,hr=>absurd rfl hr.one.ne
 | f+1,g+1,t,n::r,h1,h2,hr=>by
  simp only [List.length_cons] at h1 h2
  simp only [Xi]
  refine sub_congr hr fun x y hy=>?_
  have:=hr.part y hy
  exact KJ f g x y (by omega) (by omega) this.1
theorem Cq (t:aC){u:aC}(hu:rZ pk qF u):gP t u=mY gP t u:=by
 cases u with
 | nil=>exact absurd rfl hu.one.ne
 | cons n r=>
  show mY (Xi r.length) t (n::r)=_
  refine sub_congr hu fun x y hy=>?_
  have:=hu.part y hy
  exact KJ _ _ x y this.2 (Nat.le_refl _) this.1
end Lp
namespace Lp
open Go Go.Proofs
open Nat (reduceAdd reduceLeDiff reduceMul reduceSub)
open Int (reduceLE reduceToNat)
def zu (l:List iA):Prop:=∀ a ∈ l,fe a.c∧a.c.s.length≤500000∧0≤a.n∧a.n≤5
theorem Nb (A:List iA) (t:aC) (n:dS) (x:iA) (hg0:t[0]?=some n) (hn:0≤n.n∧n.n≤31) (hl:A.length≤100000) (hA:zu A) (hx:zu [x]) :
  ai Tryz.prog 87 [bX x,.addr (bC A),.addr (ay t)] [] (.bool (kN n.n (A++[Ez x])).2) []:=by
 refine EU.bf (T:=aR Tryz.prog [(88,yo),(89,BR),(85,qA)]) 1 hD (aj (af M_ (af PD (af Et ah)))) aZ (by decide) fun Q hQ=>?_
 (conv=>arg 4;cbv);simp(maxSteps:=400000)only[↓av,ax,BEq.rfl,reduceIte,reduceCtorEq,Nat.reduceLT,reduceAdd,reduceSub,reduceMul,Nat.reduceBEq,reduceLeDiff,reduceToNat,reduceLE,hQ]
 refine aO _ (Weak.freeze 1 0 (Nat.zero_le _) _) ?_
 have hoa:(EW A).live=true∧(EW A).ver=0∧(EW A).sz=7∧(EW A).ty=29∧(EW A).xs=A.map bX:=⟨rfl,rfl,rfl,rfl,rfl⟩
 simp(maxSteps:=400000)only[↓av,ax,BEq.rfl,reduceIte,reduceCtorEq,Nat.reduceLT,reduceAdd,reduceSub,reduceMul,Nat.reduceBEq,reduceLeDiff,reduceToNat,reduceLE,hQ,Oz,↓yo,↓BR,Zl,hoa]
 refine ⟨by omega,(hx x (by simp)).2.2,by omega,by omega,by decide,?_⟩
 refine aO _ (Weak.freeze 1 0 (Nat.zero_le _) _) ?_
 have hz:∀ v,eZ 1 0 [⟨29,7,A.map bX++[bX ⟨JP x.n,x.c⟩],true,v⟩] (.bG 0 v)=bC (A++[Ez x]):=fun v=>by
  have:=FE (A++[Ez x]) v 29 []
  simpa [Ez] using this
 simp(maxSteps:=400000)only[↓av,ax,BEq.rfl,reduceIte,reduceCtorEq,Nat.reduceLT,reduceAdd,reduceSub,reduceMul,Nat.reduceBEq,reduceLeDiff,reduceToNat,reduceLE,hQ,hz,hg0,↓qA,kE,bg,bN,bO]
 have hall:∀ a ∈ A++[Ez x],fe a.c∧a.c.s.length≤500000:=fun a ha=>by
  rcases List.mem_append.1 ha with h | h
  · exact ⟨(hA a h).1,(hA a h).2.1⟩
  · rw [List.mem_singleton.1 h]
    exact ⟨(hx x (by simp)).1,(hx x (by simp)).2.1⟩
 exact ⟨hn,by omega,fun a ha=>(hall a ha).1,fun a ha=>(hall a ha).2⟩
structure yP (t:aC) (A:List iA):Prop where
 ne:t≠[]
 tl:t.length≤1000000
 mask:0≤gU t∧gU t≤31
 len:A.length≤100000
 ok:zu A
theorem JA (A:List iA) (t:aC) (x:iA) (h:yP t A) (hx:zu [x]) :
  ai Tryz.prog 87 [bX x,.addr (bC A),.addr (ay t)] [] (.bool (rq t A x)) []:=by
 cases t with
 | nil=>exact absurd rfl h.ne
 | cons n r=>exact Nb A (n::r) n x rfl h.mask h.len h.ok hx
def qE (t:aC) (A:List iA):dD:=fun args objs K=>match args with
 | [a0,a1,a2]=>fE bX a0 (HK.mk:HK fun x=>a1=(.addr (bC A))∧a2=(.addr (ay t))∧(yP t A)∧(zu [x])∧K (.bool (rq t A x)) objs 0)
 | _=>False
theorem JB (t:aC) (A:List iA):aB Tryz.prog 87 (qE t A):=by
 intro args objs K h
 unfold qE at h
 split at h
 · rename_i a0 a1 a2
   obtain ⟨x,rfl,rfl,rfl,h1,h2,hk⟩:=h
   exact ⟨_,_,_,.pure _ rfl (JA A t x h1 h2),hk⟩
 · exact h.elim
theorem Nc (t:aC) (A l:List iA) (hl:l.length≤4611686018427387904) (hs:yP t A) (ho:zu l):ai Tryz.prog 104 [bC l,.fn 87 [] [.addr (bC A),.addr (ay t)]] [] (.int .i64 (idxOf (rq t A) l)) []:=by
 refine fJ.bf (T:=aR Tryz.prog [(87,(qE t A))]) 0 hD (aj (af (JB t A) ah)) aZ (by decide) fun Q hQ=>?_
 (conv=>arg 4;cbv);simp(maxSteps:=400000)only[↓av,ax,BEq.rfl,reduceIte,reduceCtorEq,Nat.reduceLT,reduceAdd,reduceSub,reduceMul,Nat.reduceBEq,reduceLeDiff,reduceToNat,reduceLE,hQ]
 refine aH (fun m S=>∃ i:Nat,i+m=l.length∧(∀ (j:Nat) y,j<i→l[j]?=some y→rq t A y=false)∧S=⟨dH 19 [(0,bC l),(1,.fn 87 [] [.addr (bC A),.addr (ay t)]),(7,.int .i64 l.length),(8,.int .i64 i)],[]⟩) l.length ⟨0,by omega,fun j y h=>absurd h (Nat.not_lt_zero j),?_⟩ ?_
 · simp only [bV,keepR,reduceAdd,ng,Nat.reduceBEq,List.map_nil]
   rfl
 rintro m S ⟨i,him,hb,rfl⟩
 rcases Nat.lt_or_ge i l.length with h | h
 rotate_left 1
 · have hlt:((i:Int)<(l.length:Int))=False:=eq_false (by omega)
   have hr:=uQ (l:=l) fun j y hj=>hb j y (by have:=(List.getElem?_eq_some_iff.1 hj).1;omega) hj
   simp(maxSteps:=400000)only[↓av,ax,BEq.rfl,reduceIte,reduceCtorEq,Nat.reduceLT,reduceAdd,reduceSub,reduceMul,Nat.reduceBEq,reduceLeDiff,reduceToNat,reduceLE,hQ,hlt,hr]
 have hlt:((i:Int)<(l.length:Int))=True:=eq_true (by omega)
 have zi:(0≤(i:Int))=True:=eq_true (by omega)
 have hgi:=List.getElem?_eq_getElem h
 have hao:zu [l[i]]:=fun a ha=>by rw [List.mem_singleton.1 ha];exact ho _ (List.getElem_mem h)
 generalize l[i]=o at hgi hao
 cases hp:rq t A o
 rotate_left 1
 · have hr:idxOf (rq t A) l=i:=idxOf_hit hgi hp hb
   simp(maxSteps:=400000)only[↓av,ax,BEq.rfl,reduceIte,reduceCtorEq,Nat.reduceLT,reduceAdd,reduceSub,reduceMul,Nat.reduceBEq,reduceLeDiff,reduceToNat,reduceLE,hQ,hlt,zi,hgi,↓qE,hp,hr]
   exact ⟨hs,hao⟩
 · simp(maxSteps:=400000)only[↓av,ax,BEq.rfl,reduceIte,reduceCtorEq,Nat.reduceLT,reduceAdd,reduceSub,reduceMul,Nat.reduceBEq,reduceLeDiff,reduceToNat,reduceLE,hQ,hlt,zi,hgi,↓qE,hp]
   refine ⟨hs,hao,⟨by omega,by omega⟩,m-1,by omega,i+1,by omega,fun j y hj hy=>?_,rfl⟩
   rcases Nat.lt_or_ge j i with g | g
   · exact hb j y g hy
   · have:j=i:=by omega
     subst this
     rw [hgi] at hy;cases hy
     exact hp
def vo (t:aC) (A:List iA):dD:=fun args objs K=>match args with
 | [a0,a1]=>fE bC a0 (HK.mk:HK fun l=>a1=(.fn 87 [] [.addr (bC A),.addr (ay t)])∧(l.length≤4611686018427387904)∧(yP t A)∧(zu l)∧K (.int .i64 (idxOf (rq t A) l)) objs 0)
 | _=>False
theorem JC (t:aC) (A:List iA):aB Tryz.prog 104 (vo t A):=by
 intro args objs K h
 unfold vo at h
 split at h
 · rename_i a0 a1
   obtain ⟨l,rfl,rfl,h1,h2,h3,hk⟩:=h
   exact ⟨_,_,_,.pure _ rfl (Nc t A l h1 h2 h3),hk⟩
 · exact h.elim
theorem Nf (t:aC) (A l:List iA) (hl:l.length≤4611686018427387904) (hs:yP t A) (ho:zu l):ai Tryz.prog 86 [bC l,.fn 87 [] [.addr (bC A),.addr (ay t)]] [] (.bool (l.any (rq t A))) []:=by
 refine eY.bf (T:=aR Tryz.prog [(104,(vo t A))]) 0 hD (aj (af (JC t A) ah)) aZ (by decide) fun Q hQ=>?_
 (conv=>arg 4;cbv);simp(maxSteps:=400000)only[↓av,ax,BEq.rfl,reduceIte,reduceCtorEq,Nat.reduceLT,reduceAdd,reduceSub,reduceMul,Nat.reduceBEq,reduceLeDiff,reduceToNat,reduceLE,hQ,↓vo,xZ]
 exact ⟨hl,hs,ho⟩
def vw (t:aC) (A:List iA):dD:=fun args objs K=>match args with
 | [a0,a1]=>fE bC a0 (HK.mk:HK fun l=>a1=(.fn 87 [] [.addr (bC A),.addr (ay t)])∧(l.length≤4611686018427387904)∧(yP t A)∧(zu l)∧K (.bool (l.any (rq t A))) objs 0)
 | _=>False
theorem JD (t:aC) (A:List iA):aB Tryz.prog 86 (vw t A):=by
 intro args objs K h
 unfold vw at h
 split at h
 · rename_i a0 a1
   obtain ⟨l,rfl,rfl,h1,h2,h3,hk⟩:=h
   exact ⟨_,_,_,.pure _ rfl (Nf t A l h1 h2 h3),hk⟩
 · exact h.elim
end Lp
namespace Lp
open Go Go.Proofs
open Nat (reduceAdd reduceLeDiff reduceMul reduceSub)
open Int (reduceLE reduceToNat)
theorem QA {mask:Int}{k:Nat}(hm:0≤mask∧mask≤31) (hk:k<5):yR .and .i64 mask ((2 ^ k:Nat):Int)=if nk mask k then ((2 ^ k:Nat):Int) else 0:=by
 have key:∀ (m:Fin 32) (k:Fin 5),yR .and .i64 (m.val:Int) ((2 ^ k.val:Nat):Int)=if (m.val / 2 ^ k.val) % 2==1 then ((2 ^ k.val:Nat):Int) else 0:=by decide +kernel
 have:=key ⟨mask.toNat,by omega⟩ ⟨k,hk⟩
 simp only [Int.toNat_of_nonneg hm.1] at this
 exact this
theorem aa5 {i:Nat}(h:i<5) (K:PV→Prop):oN .shl .i64 .i64 1 (i:Int) K=K (.int .i64 ((2 ^ i:Nat):Int)):=by
 have:i=0∨i=1∨i=2∨i=3∨i=4:=by omega
 rcases this with rfl | rfl | rfl | rfl | rfl <;> simp [oN,IntKind.bits] <;> rfl
theorem aa6 (a b:Int) (K:PV→Prop):oN .and .i64 .i64 a b K=K (.int .i64 (yR .and .i64 a b)):=by simp [oN]
def scO (a:aC):List Obj:=[yO a,⟨56,1,[bC (bW a)],true,1⟩]
theorem QB (a b:aC) (hoa:Y.One a) (E8:Y.One b) (hla:a.length≤100000) (hlb:b.length≤100000) (hA:yP a (bW a)) (hB:yP b (bW b)) :
  ai Tryz.prog 57 [ay a,ay b] [] (.bool (tY a b)) []:=by
 refine Jz.bf (T:=aR Tryz.prog [(84,qD),(85,qA),(86,(vw a (bW a)))]) 1 hD (aj (af Jw (af Et (af (JD a (bW a)) ah)))) aZ (by decide) fun Q hQ=>?_
 obtain ⟨n,hn,hmn⟩:∃ n,a[0]?=some n∧n.n=gU a:=by
  cases a with
  | nil=>exact absurd rfl hoa.ne
  | cons n r=>exact ⟨n,rfl,rfl⟩
 obtain ⟨n',hn',hmn'⟩:∃ n,b[0]?=some n∧n.n=gU b:=by
  cases b with
  | nil=>exact absurd rfl E8.ne
  | cons n r=>exact ⟨n,rfl,rfl⟩
 (conv=>arg 4;cbv);simp(maxSteps:=400000)only[↓av,ax,BEq.rfl,reduceIte,reduceCtorEq,Nat.reduceLT,reduceAdd,reduceSub,reduceMul,Nat.reduceBEq,reduceLeDiff,reduceToNat,reduceLE,hQ,↓qD]
 refine ⟨by omega,hoa,?_⟩
 refine aH (fun m S=>∃ i:Nat,i+m=5∧(∀ k,k<i→rW a b k=false)∧S=⟨dH 46 [(1,ay b),(2,.bJ 0 1 0 0),(5,.bJ 1 1 0 0),(12,.int .i64 i)],scO a⟩) 5 (hz:=Nat.zero_le _) ⟨0,by omega,fun k h=>absurd h (Nat.not_lt_zero k),?_⟩ ?_
 · simp only [bV,keepR,reduceAdd,ng,Nat.reduceBEq,List.map_nil]
   rfl
 rintro m S ⟨i,him,hb,rfl⟩
 rcases Nat.lt_or_ge i 5 with h | h
 · have hlt:((i:Int)<5)=True:=eq_true (by omega)
   unfold scO yO
   have h3:=aa5 h
   have hp0:(((2 ^ i:Nat):Int)=0)=False:=eq_false (by have:=Nat.pow_pos (n:=i) (show 0<2 by decide);omega)
   have hp1:0≤((2 ^ i:Nat):Int)∧((2 ^ i:Nat):Int)≤31:=by
    have:i=0∨i=1∨i=2∨i=3∨i=4:=by omega
    rcases this with rfl | rfl | rfl | rfl | rfl <;> decide
   have hal:=hA.len
   have h1:=QA hA.mask h
   have h2:=QA hB.mask h
   have hbi:rW a b i=(nk (gU a) i && !nk (gU b) i && (kN ((2 ^ i:Nat):Int) (bW a)).2):=rfl
   have hnx:rW a b i=false→∀ k,k<i+1→rW a b k=false:=fun h k hk=>by
    rcases Nat.lt_or_ge k i with g | g
    · exact hb k g
    · have:k=i:=by omega
      rw [this];exact h
   have hno:rW a b i=true→tY a b=false:=fun h=>by
    have:(List.range 5).any (rW a b)=true:=List.any_eq_true.2 ⟨i,List.mem_range.2 (by omega),h⟩
    simp [tY,this]
   generalize ((2 ^ i:Nat):Int)=pw at *
   cases hla:nk (gU a) i with
   | false=>
    rw [hla,if_neg (by decide)] at h1
    have hx:=hnx (by rw [hbi,hla];rfl)
    simp(maxSteps:=400000)only[↓av,ax,BEq.rfl,reduceIte,reduceCtorEq,Nat.reduceLT,reduceAdd,reduceSub,reduceMul,Nat.reduceBEq,reduceLeDiff,reduceToNat,reduceLE,hQ,hlt,hn,hn',hmn,hmn',h1,h2,↓h3,↓aa6]
    exact ⟨⟨by omega,by omega⟩,m-1,by omega,i+1,by omega,hx,rfl⟩
   | true=>
    rw [hla,if_pos rfl] at h1
    cases hlb:nk (gU b) i with
    | true=>
     rw [hlb,if_pos rfl] at h2
     have hx:=hnx (by rw [hbi,hla,hlb];rfl)
     simp(maxSteps:=400000)only[↓av,ax,BEq.rfl,reduceIte,reduceCtorEq,Nat.reduceLT,reduceAdd,reduceSub,reduceMul,Nat.reduceBEq,reduceLeDiff,reduceToNat,reduceLE,hQ,hlt,hn,hn',hmn,hmn',h1,h2,↓h3,↓aa6,hp0]
     exact ⟨⟨by omega,by omega⟩,m-1,by omega,i+1,by omega,hx,rfl⟩
    | false=>
     rw [hlb,if_neg (by decide)] at h2
     cases hle:(kN pw (bW a)).2 with
     | true=>
      have hr:=hno (by rw [hbi,hla,hlb,hle];rfl)
      simp(maxSteps:=400000)only[↓av,ax,BEq.rfl,reduceIte,reduceCtorEq,Nat.reduceLT,reduceAdd,reduceSub,reduceMul,Nat.reduceBEq,reduceLeDiff,reduceToNat,reduceLE,hQ,hlt,hn,hn',hmn,hmn',h1,h2,↓h3,↓aa6,hp0,↓qA,kE,hle,bg,bN,bO,hr]
      exact ⟨hp1,by omega,fun x hx=>(hA.ok x hx).1,fun x hx=>(hA.ok x hx).2.1⟩
     | false=>
      have hx:=hnx (by rw [hbi,hla,hlb,hle];rfl)
      simp(maxSteps:=400000)only[↓av,ax,BEq.rfl,reduceIte,reduceCtorEq,Nat.reduceLT,reduceAdd,reduceSub,reduceMul,Nat.reduceBEq,reduceLeDiff,reduceToNat,reduceLE,hQ,hlt,hn,hn',hmn,hmn',h1,h2,↓h3,↓aa6,hp0,↓qA,kE,hle,bg,bN,bO]
      exact ⟨hp1,by omega,fun x hx=>(hA.ok x hx).1,fun x hx=>(hA.ok x hx).2.1,⟨by omega,by omega⟩,m-1,by omega,i+1,by omega,hx,rfl⟩
 · have hlt:((i:Int)<5)=False:=eq_false (by omega)
   unfold scO yO
   simp(maxSteps:=400000)only[↓av,ax,BEq.rfl,reduceIte,reduceCtorEq,Nat.reduceLT,reduceAdd,reduceSub,reduceMul,Nat.reduceBEq,reduceLeDiff,reduceToNat,reduceLE,hQ,hlt]
   refine aO _ (Weak.freeze 1 0 (Nat.zero_le _) _) ?_
   have hS:tY a b=!(bW b).any (rq a (bW a)):=by
    have:(List.range 5).any (rW a b)=false:=by
     rw [List.any_eq_false]
     intro k hk
     have:=hb k (by have:=List.mem_range.1 hk;omega)
     rw [this];simp
    simp [tY,this]
   simp(maxSteps:=400000)only[↓av,ax,BEq.rfl,reduceIte,reduceCtorEq,Nat.reduceLT,reduceAdd,reduceSub,reduceMul,Nat.reduceBEq,reduceLeDiff,reduceToNat,reduceLE,hQ,↓qD,↓vw]
   exact ⟨by omega,E8,rfl,rfl,by have:=hB.len;omega,hA,hB.ok,hS⟩
def pY:dD:=fun args objs K=>match args with
 | [a0,a1]=>fE ay a0 (HK.mk:HK fun a=>fE ay a1 (HK.mk:HK fun b=>(Y.One a)∧(Y.One b)∧(a.length≤100000)∧(b.length≤100000)∧(yP a (bW a))∧(yP b (bW b))∧K (.bool (tY a b)) objs 0))
 | _=>False
theorem Cr:aB Tryz.prog 57 (pY):=by
 intro args objs K h
 unfold pY at h
 split at h
 · rename_i a0 a1
   obtain ⟨a,rfl,b,rfl,h1,h2,h3,h4,h5,h6,hk⟩:=h
   exact ⟨_,_,_,.pure _ rfl (QB a b h1 h2 h3 h4 h5 h6),hk⟩
 · exact h.elim
end Lp
namespace Lp
open Go Go.Proofs
open Nat (reduceAdd reduceLeDiff reduceMul reduceSub)
def rX (a b:Int):PV:=.agg [.int .i64 a,.int .i64 b]
theorem aeB (a b c d:Int):Au Tryz.prog 55 [.int .i64 a,.int .i64 b] [.int .i64 c,.int .i64 d]:=by
 have u3:Tryz.prog.underlying 3=some (.int .i64):=by kernel_rfl
 have u5:Tryz.prog.underlying 55=some (.array 2 3):=by kernel_rfl
 have hc:Tryz.prog.cellsOf 3=1:=by kernel_rfl
 refine ⟨by kernel_rfl,fun w ok vs us r hr h1 h2=>?_⟩
 obtain ⟨inf,ach,_⟩:=(hD 3).info (by simp [bL])
 have e:Op.equal 55 (.agg ⟨vs⟩) (.agg ⟨us⟩)=Op.equalIn (9999+1) 55 (.agg ⟨vs⟩) (.agg ⟨us⟩):=rfl
 obtain ⟨v0,v1,rfl,x0,x1⟩:=OT h1
 obtain ⟨y0,y1,rfl,z0,z1⟩:=OT h2
 cases x0;cases x1;cases z0;cases z1
 have pt:∀ (p q:Value) (o:Nat) (v:Value),(#[p,q]:Array Value)[o]?=some v→(part 3 #[p,q] o).run Tryz.prog w=.ok v w:=fun p q o v h=>wM u3 (.inl ⟨_,rfl⟩) h
 simp only [yA,Z4,Bool.and_true,Option.some.injEq,if_true] at hr
 subst hr
 rw [e,run_equalIn_array w 9999 _ _ u5 ach,hc]
 have r2:List.range 2=[0,1]:=rfl
 have e1:(Op.equalIn 9999 3 (.int .i64 a) (.int .i64 c)).run Tryz.prog w=.ok (a==c) w:=run_equalIn_int w 9998 3 .i64 .i64 a c u3
 have e2:(Op.equalIn 9999 3 (.int .i64 b) (.int .i64 d)).run Tryz.prog w=.ok (b==d) w:=run_equalIn_int w 9998 3 .i64 .i64 b d u3
 have i0:∀ p q:Value,(#[p,q]:Array Value)[0]=p:=fun _ _=>rfl
 simp only [r2,Op.eqItems,Sem.run_bind,Nat.zero_mul,Nat.one_mul,pt _ _ 0 _ rfl,pt _ _ 1 _ rfl,Result.andThen_ok,i0,e1]
 by_cases h1:a=c
 · subst h1
   simp only [BEq.rfl,Bool.not_true,Bool.false_eq_true,if_false,Sem.run_bind,pt _ _ 1 _ rfl,Result.andThen_ok,decide_true,Bool.true_and]
   simp only [List.getElem_toArray,List.getElem_cons_succ,List.getElem_cons_zero,e2,Result.andThen_ok]
   by_cases h2:b=d <;> simp [h2]
 · simp [h1]
theorem ZO (objs:List Obj) (K:KT) :
  (∀ a b,bF D 55 [(0,.int .i64 a),(1,.int .i64 b)] objs K=K (rX a b) objs 0):=by
 have z:aI (D 55)=rX 0 0:=by kernel_rfl
 have a:(D 55).agg=true:=by kernel_rfl
 simp only [bL] at z a
 intro x y
 simp [bF,lG,a,z,bL,mg,rX,PV.isAgg,qb,PV.cells,PV.storable,PV.lS,PV.pure]
theorem eqK (ti:aD) (a b c d:Int) (K:PV→Prop):ow Tryz.prog ti 55 .eql (rX a b) (rX c d) K=K (.bool (decide (a=c) && decide (b=d))):=by
 show (Au Tryz.prog 55 [.int .i64 a,.int .i64 b] [.int .i64 c,.int .i64 d]∧∃ r,yA [.int .i64 a,.int .i64 b] [.int .i64 c,.int .i64 d]=some r∧K (.bool r))=_
 simp [aeB,yA,Z4]
theorem zK:PV.vO (.agg ⟨[.int .i64 0,.int .i64 0]⟩)=rX 0 0:=rfl
theorem pK (a b x y:Int):(rX a b).putCells 0 [.int .i64 x,.int .i64 y]=rX x y:=rfl
theorem pS (s:Nat) (xs:List PV) (q:Option Bool) (x:PV):(PV.sl s xs q).putCells 0 [x]=x:=rfl
theorem jS (X:List aC) (rest:List Obj):eZ 1 0 (⟨54,1,[cZ X],true,1⟩::rest) (.bJ 0 1 0 0)=.addr (cZ X):=rfl
theorem jT (o:Obj) (X:List aC) (rest:List Obj):eZ 1 0 (o::⟨54,1,[cZ X],true,1⟩::rest) (.bJ 1 1 0 0)=.addr (cZ X):=rfl
theorem o6 (a b:Int) (rest:List Obj):eZ 1 0 (⟨55,2,[rX a b],true,1⟩::rest) (.bJ 0 1 0 0)=.addr (rX a b):=rfl
theorem kC (a b:Int):(rX a b).cells=[.int .i64 a,.int .i64 b]∧(rX a b).isAgg=true∧(rX a b).pure=true∧(∀ d m O,eZ d m O (rX a b)=rX a b)∧(∀ d m O,gJ d m O (rX a b)=rX a b):=⟨rfl,rfl,rfl,fun _ _ _=>rfl,fun _ _ _=>rfl⟩
theorem Xj (a b k j:Int):ai Tryz.prog 56 [.int .i64 a,.int .i64 b,.addr (rX k j)] [] (.bool (decide (k=a) && decide (j=b))) []:=by
 refine M8.bf (T:=aR Tryz.prog []) 0 hD (aj ah) aZ (by decide) fun Q hQ=>?_
 (conv=>arg 4;cbv);simp(maxSteps:=400000)only[↓av,ax,BEq.rfl,reduceIte,reduceCtorEq,Nat.reduceLT,reduceAdd,reduceSub,reduceMul,Nat.reduceBEq,reduceLeDiff,Int.reduceToNat,Int.reduceLE,hQ,↓ZO,↓eqK,kC,List.length_cons,List.length_nil]
def f_ (k j:Int):dD:=fun args objs K=>match args with
 | [.int .i64 a,.int .i64 b,c]=>c=.addr (rX k j)∧K (.bool (decide (k=a) && decide (j=b))) objs 0
 | _=>False
theorem Ii (k j:Int):aB Tryz.prog 56 (f_ k j):=by
 intro args objs K h
 unfold f_ at h
 split at h
 · rename_i a b c
   obtain ⟨rfl,hk⟩:=h
   exact ⟨_,_,_,.pure _ rfl (Xj a b k j),hk⟩
 · exact h.elim
theorem Ng (a b:aC) (hoa:Y.One a) (E8:Y.One b) (hla:a.length≤100000) (hlb:b.length≤100000) (hA:yP a (bW a)) (hB:yP b (bW b)) (ka:Y.kindOf a=1) (kb:Y.kindOf b=1) :
  ai Tryz.prog 20 [ay a,ay b] [] (.bool (tY a b)) []:=by
 refine Ia.bf (T:=aR Tryz.prog [(52,kF),(57,pY),(56,(f_ 1 1))]) 1 hD (aj (af rV (af Cr (af (Ii 1 1) ah)))) aZ (by decide) fun Q hQ=>?_
 obtain ⟨n,hn,hkn⟩:∃ n,a[0]?=some n∧n.kind=1:=by
  cases a with
  | nil=>exact absurd rfl hoa.ne
  | cons n r=>exact ⟨n,rfl,ka⟩
 obtain ⟨n',hn',hkn'⟩:∃ n,b[0]?=some n∧n.kind=1:=by
  cases b with
  | nil=>exact absurd rfl E8.ne
  | cons n r=>exact ⟨n,rfl,kb⟩
 (conv=>arg 4;cbv);simp(maxSteps:=400000)only[↓av,ax,BEq.rfl,reduceIte,reduceCtorEq,Nat.reduceLT,reduceAdd,reduceSub,reduceMul,Nat.reduceBEq,reduceLeDiff,Int.reduceToNat,Int.reduceLE,hQ,↓kF,pS]
 refine ⟨hoa,by omega,E8,by omega,?_⟩
 refine aO _ (Weak.freeze 1 0 (Nat.zero_le _) _) ?_
 simp(maxSteps:=400000)only[↓av,ax,BEq.rfl,reduceIte,reduceCtorEq,Nat.reduceLT,reduceAdd,reduceSub,reduceMul,Nat.reduceBEq,reduceLeDiff,Int.reduceToNat,Int.reduceLE,hQ,hn,hn',hkn,hkn',↓ZO,jS,jT,zK,pK,kC]
 refine ⟨by decide,?_⟩
 refine aO _ (Weak.freeze 1 0 (Nat.zero_le _) _) ?_
 simp(maxSteps:=400000)only[↓av,ax,BEq.rfl,reduceIte,reduceCtorEq,Nat.reduceLT,reduceAdd,reduceSub,reduceMul,Nat.reduceBEq,reduceLeDiff,Int.reduceToNat,Int.reduceLE,hQ,o6,jS,jT,↓f_,↓pY]
 exact ⟨hoa,E8,hla,hlb,hA,hB⟩
end Lp
namespace Lp
open Go Go.Proofs
def ac8:Nd:=⟨3,0,[],[50],false,0⟩
def aa7:aC:=[⟨1,0,[],[],8,aN⟩]
def tyA:aC:=[⟨1,1,[],[],8,aN⟩,⟨9,0,[],[],4,ac8⟩]
def tyU:aC:=[⟨1,1,[],[],24,aN⟩,⟨9,0,[],[],1,ac8⟩]
def aeC:Stp:=⟨false,[97],0⟩
theorem QC:fo aa7=true∧fo tyA=true∧fo tyU=true∧Qv aa7 [] ⟨4,ac8⟩=(tyA,0)∧Qv tyA [aeC] ⟨0,aN⟩=([],6):=by decide +kernel
theorem Xk:tY tyA tyU=true∧tY tyU tyA=false:=by decide +kernel
def ac9 (x:PV) (p:List Stp):Prop:=x=gG p∨(x=.sl 0 [] (some true)∧p=[])
theorem ac_ (a:List Stp) (P:List Stp→Prop):(∃ l,ac9 (gG a) l∧P l)=P a:=by
 apply propext
 constructor
 · rintro ⟨l,h | ⟨h,_⟩,hp⟩
   · rw [sQ _ _ h];exact hp
   · simp [gG] at h
 · exact fun h=>⟨a,.inl rfl,h⟩
theorem ada (P:List Stp→Prop):(∃ l,ac9 (.sl 0 [] (some true)) l∧P l)=P []:=by
 apply propext
 constructor
 · rintro ⟨l,h | ⟨_,rfl⟩,hp⟩
   · simp [gG] at h
   · exact hp
 · exact fun h=>⟨[],.inr ⟨rfl,rfl⟩,h⟩
def vz:dD:=fun args objs K=>match args with
 | [a,x,b]=>fE ay a (HK.mk:HK fun t=>∃ p,ac9 x p∧fE bX b (HK.mk:HK fun c=>t.length≤100000∧Y.One t∧p.length≤1000000∧ZM t p∧K (.bZ [ay (Qv t p c).1,.int .i64 (Qv t p c).2]) objs 0))
 | _=>False
theorem JE:aB Tryz.prog 11 vz:=by
 intro args objs K h
 unfold vz at h
 split at h
 · obtain ⟨t,rfl,p,hx,c,rfl,h1,h2,h3,h4,hk⟩:=h
   have hs:=(Qx t p c h1 h2 h3 h4).res (Qw t p c)
   rcases hx with rfl | ⟨rfl,rfl⟩
   · exact ⟨_,_,_,.pure _ rfl hs,hk⟩
   · refine ⟨_,_,_,.pure _ rfl (hs.arg rfl fun i p q hp hq=>?_),hk⟩
     match i with
     | 0=>cases hp;cases hq;exact .refl _
     | 1=>cases hp;cases hq;exact sO 0 3
     | 2=>cases hp;cases hq;exact .refl _
     | _+3=>simp at hp
 · exact h.elim
def vB:dD:=fun args objs K=>match args with
 | [a0,a1]=>fE ay a0 (HK.mk:HK fun a=>fE ay a1 (HK.mk:HK fun b=>(Y.One a)∧(Y.One b)∧(a.length≤100000)∧(b.length≤100000)∧(yP a (bW a))∧(yP b (bW b))∧(Y.kindOf a=1)∧(Y.kindOf b=1)∧K (.bool (tY a b)) objs 0))
 | _=>False
theorem JF:aB Tryz.prog 20 (vB):=by
 intro args objs K h
 unfold vB at h
 split at h
 · rename_i a0 a1
   obtain ⟨a,rfl,b,rfl,h1,h2,h3,h4,h5,h6,h7,h8,hk⟩:=h
   exact ⟨_,_,_,.pure _ rfl (Ng a b h1 h2 h3 h4 h5 h6 h7 h8),hk⟩
 · exact h.elim
theorem stB (objs:List Obj) (K:KT):(∀ nm,bF D 61 [(1,.str nm)] objs K=K (encS ⟨false,nm,0⟩) objs 0):=by
 have z:aI (D 61)=encS ⟨false,[],0⟩:=by kernel_rfl
 have a:(D 61).agg=true:=by kernel_rfl
 simp only [bL] at z a
 intro nm
 simp [bF,lG,a,z,bL,mg,encS,PV.isAgg,qb,PV.cells,PV.storable,PV.lS,PV.pure]
theorem afq (objs:List Obj) (K:KT):bF D 29 [] objs K=K (bX ⟨0,aN⟩) objs 0:=by
 have z:aI (D 29)=bX ⟨0,aN⟩:=by kernel_rfl
 have a:(D 29).agg=true:=by kernel_rfl
 simp only [bL] at z a
 simp [bF,lG,a,z,bL,mg,bX,aA,aN,PV.isAgg,qb,PV.cells,PV.storable,PV.lS,PV.pure]
theorem stZ:PV.vO (.agg ⟨[.bool false,.string ⟨⟨[]⟩⟩,.int .i64 0]⟩)=encS ⟨false,[],0⟩:=rfl
theorem stW (a:Stp) (b:Bool) (nm:List UInt8) (n:Int):(encS a).putCells 0 [.bool b,.str nm,.int .i64 n]=encS ⟨b,nm,n⟩:=rfl
theorem QD {t:aC}(h:rZ bA eD t) (p:List Stp):ZM t p:=fun i x _ hx=>by
 obtain ⟨_,_,h1,_⟩:=Y.rR h.one hx
 exact ⟨h1,Xd h.good hx⟩
theorem Nh {t:aC}(h:rZ bA eD t) (hk:Y.kindOf t=1) (hl:t.length≤100000) (hs:∀ n ∈ t,n.c.s.length≤500000):yP t (bW t):=by
 cases t with
 | nil=>exact absurd rfl h.one.ne
 | cons n r=>
  have hk':n.kind=1:=hk
  obtain ⟨h1,h2,h3,h4,h5⟩:=FU h hk'
  simp only [List.length_cons] at hl
  refine ⟨by simp,by simp only [List.length_cons];omega,⟨by show 0≤n.n;omega,h5⟩,by rw [h1,List.length_map];omega,fun a ha=>?_⟩
  rw [h1] at ha
  obtain ⟨x,hx,rfl⟩:=List.mem_map.1 ha
  have hr:=(h3 x hx).1
  have hc:=hs x (List.mem_cons_of_mem _ hx)
  simp only [jC,Bool.and_eq_true,decide_eq_true_eq] at hr
  exact ⟨⟨hr.2,by show x.c.s.length≤1000000;omega⟩,hc,hr.1.1,hr.1.2⟩
theorem Ni:ai Tryz.prog 10 [] [] (.bool true) []:=by
 refine Ak.bf (T:=aR Tryz.prog [(11,vz),(20,vB),(13,yh)]) 0 hD (aj (af JE (af JF (af MZ ah)))) aZ (by decide) fun Q hQ=>?_
 obtain ⟨r0,rA,rU,f1,f2⟩:=QC
 have t0:=nQ r0
 have tA:=nQ rA
 have tU:=nQ rU
 have f1':Qv aa7 [] ⟨4,⟨3,0,[],[50],false,0⟩⟩=(tyA,0):=f1
 have d1:decide (tyA=tyA)=true:=decide_eq_true rfl
 obtain ⟨s1,s2⟩:=Xk
 have e0:([⟨1,0,[],[],8,aN⟩]:aC)=aa7:=rfl
 have eA:([⟨1,1,[],[],8,aN⟩,⟨9,0,[],[],4,⟨3,0,[],[50],false,0⟩⟩]:aC)=tyA:=rfl
 have eU:([⟨1,1,[],[],24,aN⟩,⟨9,0,[],[],1,⟨3,0,[],[50],false,0⟩⟩]:aC)=tyU:=rfl
 have eS:(⟨false,[97],0⟩:Stp)=aeC:=rfl
 (conv=>arg 4;cbv);simp(maxSteps:=400000)only[↓av,ax,BEq.rfl,reduceIte,reduceCtorEq,Nat.reduceLT,Nat.reduceAdd,Nat.reduceSub,Nat.reduceMul,Nat.reduceBEq,Nat.reduceLeDiff,Int.reduceToNat,Int.reduceLE,hQ,qH,gH,gM,rT,cK,dX,atB,↓stB,↓afq,bN,bO,↓vz,ac_,ada,e0,eA,eU,eS,f1',f2,bg,stZ,stW,↓vB,s1,s2,↓yh,d1]
 have sA:=Nh tA rfl (by decide) (by decide)
 have sU:=Nh tU rfl (by decide) (by decide)
 exact ⟨by decide,t0.one,QD t0 _,by decide,tA.one,QD tA _,tA.one,tU.one,by decide,by decide,sA,sU,rfl,rfl,tU.one,tA.one,by decide,by decide,sU,sA,rfl,rfl,by decide,by decide⟩
def Al:dD:=fun args objs K=>args=[]∧K (.bool true) objs 0
theorem JG:aB Tryz.prog 10 Al:=by
 rintro args objs K ⟨rfl,hk⟩
 exact ⟨_,_,_,.pure _ rfl Ni,hk⟩
theorem pF (objs:List Obj) (K:KT):Al [] objs K=K (.bool true) objs 0:=propext ⟨fun h=>h.2,fun h=>⟨rfl,h⟩⟩
end Lp
namespace Lp
open Go Go.Proofs
end Lp
namespace Lp
open Go Go.Proofs
instance :Inhabited Stp:=⟨⟨false,[],0⟩⟩
section
variable {H:Type}{eh:TypeId×Value→H}{w:World}{base:Nat}{v:Value}{d:DataW H}{p:List MemPlace}
end
end Lp
namespace Lp
open Go Go.Proofs
theorem Nj:aP Tryz.prog 53 7 [.tmp 2] (gen [] [] [] Tryz.f53):=bq Tryz.func53 rfl (by kernel_rfl)
theorem Ij:aP Tryz.prog 55 10 [.tmp 3] (gen [] [] [] Tryz.f55):=bq Tryz.func55 rfl (by kernel_rfl)
theorem jI:aP Tryz.prog 54 9 [.tmp 4] (gen [] [] [] Tryz.f54):=bq Tryz.func54 rfl (by kernel_rfl)
theorem j3:aP Tryz.prog 83 19 [.tmp 4] (gen [] [(387,none)] [] Tryz.f83):=bq Tryz.func83 rfl (by kernel_rfl)
theorem fD:aP Tryz.prog 61 32 [.tmp 6] (gen [] [(229382,none)] [] Tryz.f61):=bq Tryz.func61 rfl (by kernel_rfl)
theorem EY:aP Tryz.prog 58 57 [.tmp 4] (gen [] [(16419,none)] [] Tryz.f58):=bq Tryz.func58 rfl (by kernel_rfl)
theorem JH:aP Tryz.prog 90 28 [.tmp 2] (gen [] [(3609,none)] [] Tryz.f90):=bq Tryz.func90 rfl (by kernel_rfl)
theorem Nk:aP Tryz.prog 60 10 [.tmp 2] (gen [] [] [] Tryz.f60):=bq Tryz.func60 rfl (by kernel_rfl)
theorem Xl:aP Tryz.prog 59 41 [.tmp 6] (gen [] [(57482,some (1,2))] [9,11] Tryz.f59):=bq Tryz.func59 rfl (by kernel_rfl)
theorem Xm:aP Tryz.prog 91 10 [.tmp 4] (gen [6] [] [] Tryz.f91):=bq Tryz.func91 rfl (by kernel_rfl)
theorem mZ:aP Tryz.prog 105 36 [.tmp 2] (gen [] [(3593,none),(234881088,none)] [] Tryz.f105):=bq Tryz.func105 rfl (by kernel_rfl)
theorem vC:aP Tryz.prog 5 71 [.tmp 4] (gen [] [(227,none)] [] Tryz.f5):=bq Tryz.func5 rfl (by kernel_rfl)
end Lp
namespace Lp
open Go Go.Proofs Go.RowKit
open List (length_cons map_append map_cons map_nil take_add_one take_zero)
open Nat (lt_or_ge reduceAdd reduceLeDiff reduceMul reduceSub zero_le)
open Int (reduceLE reduceToNat)
theorem TN (n:Int) (h0:0≤n) (h1:n≤1000000):ai Tryz.prog 118 [.sl 0 [] (some true),.int .i64 n] [] (.bG 0 0) [⟨51,11,[],true,0⟩]:=by
 obtain ⟨n,rfl⟩:∃ k:Nat,n=k:=⟨n.toNat,by omega⟩
 refine ai.RU (by
  obtain ⟨nm,hn,hf⟩:=Tryz.GX.f4
  exact ⟨_,hf,hn,by kernel_rfl⟩) (by decide) fun w vs ok hg hr=>?_
 obtain ⟨u,v,rfl,h,h'⟩:=OT hr
 cases OU h'
 have hu:u=.slice none 0 0:=by
  cases h with
  | slnil=>rfl
  | JS _ _ hq=>exact absurd rfl hq
  | sl _ _ _ hq=>exact absurd rfl hq
 subst hu
 rcases Nat.eq_zero_or_pos n with h0 | h0
 · subst h0
   refine (Any8.slices_Grow_room Tryz.GX none 0 0 0 w (by decide) (by decide) (by decide) (by decide)).mono ?_
   rintro e w' ⟨h1,rfl⟩
   exact ⟨_,h1,.refl _ _,.inl rfl⟩
 · obtain ⟨⟨inf,hi0,hzs,hzb,hz0,_⟩,_⟩:=(hD 51).resolve_left (by simp [bL])
   have hzs:inf.size=11:=hzs
   have hzb:inf.bytes=120:=hzb
   have hz0:inf.zero=some (.agg ⟨[.int .i64 0,.int .i64 0,.string ⟨⟨[]⟩⟩,.string ⟨⟨[]⟩⟩,.int .i64 0,.int .i64 0,.int .i64 0,.string ⟨⟨[]⟩⟩,.string ⟨⟨[]⟩⟩,.bool false,.int .i64 0]⟩):=hz0
   have hge:=grownCap_ge w (0+n) 0 51
   have hmx:=grownCap_le_maxLen w (0+n) 0 51 (by unfold maxLen;omega)
   refine (Any8.slices_Grow_grow Tryz.GX inf _ hi0 hz0 (by omega) none 0 0 n [] w (by decide) (by omega) (by rw [hzb];omega) (by omega) (by simp) (fun _=>rfl) (fun a ha=>by cases ha)).mono ?_
   rintro e w' ⟨h1,rfl⟩
   refine ⟨_,h1,(Below.refl w.heap.size w).drew.alloc (Nat.le_refl _) _,.inr ⟨w.heap.size,_,_,Nat.le_refl _,rfl,heap_alloc_new w.drew _,hmx,?_⟩⟩
   simp only [Array.size_append,size_zeroCells,List.size_toArray,List.length_nil]
   have e6:(Value.agg ⟨[.int .i64 0,.int .i64 0,.string ⟨⟨[]⟩⟩,.string ⟨⟨[]⟩⟩,.int .i64 0,.int .i64 0,.int .i64 0,.string ⟨⟨[]⟩⟩,.string ⟨⟨[]⟩⟩,.bool false,.int .i64 0]⟩).cells.size=11:=by decide
   rw [e6]
   have et:Tryz.Bu.t 25=51:=rfl
   rw [et]
   omega
def Cs:dD:=fun args objs K=>match args with
 | [.sl 0 [] (some true),.int .i64 n]=>0≤n∧n≤1000000∧K (.bG objs.length 0) (objs++[⟨51,11,[],true,0⟩]) 2
 | _=>False
theorem QE:aB Tryz.prog 118 Cs:=by
 intro args objs K h
 unfold Cs at h
 split at h
 · rename_i n
   obtain ⟨h0,h1,hk⟩:=h
   have h:=mE.made (objs:=objs) _ _ rfl (fun o ho x hx=>by simp at ho;subst ho;cases hx) (TN n h0 h1)
   exact ⟨_,_,_,h,by simpa [PV.shift,PV.qc] using hk⟩
 · exact h.elim
theorem Nl (l:List aC){i:Nat}{v:aC}(h:l[i]?=some v):(l.take (i+1)).flatten=(l.take i).flatten++v:=by
 rw [take_add_one,h];simp
theorem Ct (l:List aC){i:Nat}{v:aC}(h:l[i]?=some v):(l.take i).flatten.length+v.length≤l.flatten.length:=by
 have e:l.flatten.length=((l.take (i+1)).flatten++(l.drop (i+1)).flatten).length:=by rw [← List.flatten_append,List.take_append_drop]
 rw [e,take_add_one,h];simp
theorem ZP (v:aC) (ver:Nat) (t:TypeId) (rest:List Obj):eZ 1 0 (⟨t,11,v.map aK,true,ver⟩::rest) (.bG 0 ver)=ay v:=by
 have e:(v.map aK).map (PV.bI (iU 0 0 (⟨t,11,v.map aK,true,ver⟩::rest)))=v.map aK:=H9 _ (fun _=>rfl) v
 simp only [eZ,Nat.not_lt_zero,if_false,iU,List.getElem?_cons_zero,Nat.le_refl,decide_true,Bool.true_and,beq_self_eq_true,if_true,e]
 rfl
theorem Nn (l:List aC) (hl:l.length≤1000000) (hb:l.flatten.length≤1000000):ai Tryz.prog 105 [cZ l] [] (ay l.flatten) []:=by
 refine mZ.bf (T:=aR Tryz.prog [(118,Cs)]) 1 hD (aj (af QE ah)) aZ (by decide) fun Q hQ=>?_
 (conv=>arg 4;cbv);simp(maxSteps:=400000)only[↓av,ax,BEq.rfl,reduceIte,reduceCtorEq,Nat.reduceLT,reduceAdd,reduceSub,reduceMul,Nat.reduceBEq,reduceLeDiff,reduceToNat,reduceLE,hQ]
 refine aH (fun m S=>∃ i:Nat,i+m=l.length∧S=⟨dH 36 [(0,cZ l),(3,.int .i64 ((l.take i).flatten.length:Nat)),(9,cZ l),(10,.int .i64 l.length),(11,.int .i64 i)],[]⟩) l.length ⟨0,by omega,?_⟩ ?_
 · simp only [bV,keepR,reduceAdd,ng,Nat.reduceBEq,map_nil]
   rfl
 rintro m S ⟨i,him,rfl⟩
 rcases lt_or_ge i l.length with h | h
 · have hlt:((i:Int)<(l.length:Int))=True:=eq_true (by omega)
   have hgi:=List.getElem?_eq_getElem h
   generalize l[i]=v at hgi
   have hs:=Nl l hgi
   have hf:=Ct l hgi
   have zi:(0≤(i:Int))=True:=eq_true (by omega)
   have hs':((l.take (i+1)).flatten.length:Int)=(l.take i).flatten.length+v.length:=by rw [hs,List.length_append];omega
   have hn:(((l.take i).flatten.length:Int)+v.length<0)=False:=eq_false (by omega)
   simp(maxSteps:=400000)only[↓av,ax,BEq.rfl,reduceIte,reduceCtorEq,Nat.reduceLT,reduceAdd,reduceSub,reduceMul,Nat.reduceBEq,reduceLeDiff,reduceToNat,reduceLE,hQ,hlt,zi,hgi,hn]
   refine ⟨⟨by omega,by omega⟩,⟨by omega,by omega⟩,m-1,by omega,i+1,by omega,?_⟩
   rw [hs']
   rfl
 have hlt:((i:Int)<(l.length:Int))=False:=eq_false (by omega)
 rw [List.take_of_length_le h]
 simp(maxSteps:=400000)only[↓av,ax,BEq.rfl,reduceIte,reduceCtorEq,Nat.reduceLT,reduceAdd,reduceSub,reduceMul,Nat.reduceBEq,reduceLeDiff,reduceToNat,reduceLE,hQ,hlt,↓Cs]
 refine ⟨by omega,by omega,?_⟩
 refine aH (fun m S=>∃ i ver:Nat,i+m=l.length∧S=⟨dH 36 [(6,.bG 0 ver),(25,cZ l),(26,.int .i64 l.length),(27,.int .i64 i)],[⟨51,11,(l.take i).flatten.map aK,true,ver⟩]⟩) l.length ⟨0,0,by omega,?_⟩ ?_
 · simp only [bV,keepR,reduceAdd,ng,Nat.reduceBEq,map_nil]
   rfl
 rintro m' S ⟨j,ver,hjm,rfl⟩
 rcases lt_or_ge j l.length with h' | h'
 rotate_left 1
 · have hlt:((j:Int)<(l.length:Int))=False:=eq_false (by omega)
   simp(maxSteps:=400000)only[↓av,ax,BEq.rfl,reduceIte,reduceCtorEq,Nat.reduceLT,reduceAdd,reduceSub,reduceMul,Nat.reduceBEq,reduceLeDiff,reduceToNat,reduceLE,hQ,hlt]
   rw [List.take_of_length_le h']
   all_goals exact (ZP l.flatten ver 51 []).symm
 have hlt:((j:Int)<(l.length:Int))=True:=eq_true (by omega)
 have hgi:=List.getElem?_eq_getElem h'
 generalize l[j]=v at hgi
 have hs:=Nl l hgi
 have hf:=Ct l hgi
 have zi:(0≤(j:Int))=True:=eq_true (by omega)
 simp(maxSteps:=400000)only[↓av,ax,BEq.rfl,reduceIte,reduceCtorEq,Nat.reduceLT,reduceAdd,reduceSub,reduceMul,Nat.reduceBEq,reduceLeDiff,reduceToNat,reduceLE,hQ,hlt,zi,hgi,gH]
 refine ⟨by omega,by omega,⟨by omega,by omega⟩,m'-1,by omega,j+1,ver+1,by omega,?_⟩
 rw [hs]
 rfl
def vD:dD:=fun args objs K=>match args with
 | [a0]=>fE cZ a0 (HK.mk:HK fun l=>(l.length≤1000000)∧(l.flatten.length≤1000000)∧K (ay l.flatten) objs 0)
 | _=>False
theorem JI:aB Tryz.prog 105 (vD):=by
 intro args objs K h
 unfold vD at h
 split at h
 · rename_i a0
   obtain ⟨l,rfl,h1,h2,hk⟩:=h
   exact ⟨_,_,_,.pure _ rfl (Nn l h1 h2),hk⟩
 · exact h.elim
theorem TP (t:dS) (l:List aC) (hl:l.length≤1000000) (hb:l.flatten.length≤1000000):ai Tryz.prog 91 [aK t,cZ l] [] (ay (t::l.flatten)) []:=by
 refine Xm.bf (T:=aR Tryz.prog [(105,vD)]) 1 hD (aj (af JI ah)) aZ (by decide) fun Q hQ=>?_
 (conv=>arg 4;cbv);simp(maxSteps:=400000)only[↓av,ax,BEq.rfl,reduceIte,reduceCtorEq,Nat.reduceLT,reduceAdd,reduceSub,reduceMul,Nat.reduceBEq,reduceLeDiff,reduceToNat,reduceLE,hQ,↓vD,gH,gM,rT]
 exact ⟨hl,hb,by omega,by omega,by decide,(UU _ _ _ _ _ _).symm⟩
def Cu:dD:=fun args objs K=>match args with
 | [a0,a1]=>fE aK a0 (HK.mk:HK fun t=>fE cZ a1 (HK.mk:HK fun l=>(l.length≤1000000)∧(l.flatten.length≤1000000)∧K (ay (t::l.flatten)) objs 0))
 | _=>False
theorem QF:aB Tryz.prog 91 (Cu):=by
 intro args objs K h
 unfold Cu at h
 split at h
 · rename_i a0 a1
   obtain ⟨t,rfl,l,rfl,h1,h2,hk⟩:=h
   exact ⟨_,_,_,.pure _ rfl (TP t l h1 h2),hk⟩
 · exact h.elim
def vM (names:List (List UInt8)) (i:Nat) (p:aC):aC:=match names[i]? with | some nm=>Co nm p | none=>p
def iQ (names:List (List UInt8)):Nat→List aC→List aC
 | _,[]=>[]
 | i,p::l=>vM names i p::iQ names (i+1) l
theorem Cv (names:List (List UInt8)) (p:aC):∀ (l:List aC) (i:Nat),iQ names i (l++[p])=iQ names i l++[vM names (i+l.length) p]
 | [],i=>rfl
 | q::l,i=>by
  simp only [List.cons_append,iQ,length_cons,Cv names p l (i+1)]
  rw [show i+1+l.length=i+(l.length+1) by omega]
theorem Xn (names:List (List UInt8)) (i:Nat) (p:aC):(vM names i p).length=p.length:=by
 unfold vM
 split
 · cases p <;> rfl
 · rfl
theorem pG (names:List (List UInt8)):∀ (l:List aC) (i:Nat),(iQ names i l).flatten.length=l.flatten.length∧(iQ names i l).length=l.length
 | [],_=>⟨rfl,rfl⟩
 | p::l,i=>by
  have:=pG names l (i+1)
  simp only [iQ,List.flatten_cons,List.length_append,Xn,length_cons]
  omega
def EA (names:List (List UInt8)) (o:Bool):PV:=if o then kr names else .sl 0 [] (some true)
theorem DL (d n:Nat) (X:List Obj) (t:TypeId) (l:List aC) (p:aC) (ver:Nat):fB d n X ⟨t,1,l.map ay++[ay p],true,ver⟩=⟨t,1,l.map ay++[ay p],true,ver⟩:=by
 have:=Qd d n X t (l++[p]) ver
 simpa using this
theorem KL (t:dS) (names:List (List UInt8)) (o:Bool) (l:List aC) (ho:o=false→names=[]) (hn:names.length≤100000) (hl:l.length≤100000) (hf:l.flatten.length≤1000000) (hne:∀ p ∈ l,p≠[]) :
  ai Tryz.prog 59 [aK t,EA names o,cZ l] [] (ay ({ t with many:=l.length }::(iQ names 0 l).flatten)) []:=by
 refine Xl.bf (T:=aR Tryz.prog [(91,Cu),(28,jo)]) 1 hD (aj (af QF (af vg ah))) aZ (by decide) fun Q hQ=>?_
 (conv=>arg 4;cbv);simp(maxSteps:=400000)only[↓av,ax,BEq.rfl,reduceIte,reduceCtorEq,Nat.reduceLT,reduceAdd,reduceSub,reduceMul,Nat.reduceBEq,reduceLeDiff,reduceToNat,reduceLE,hQ,gH,gM,rT]
 have hb:∃ b:dS,b={ t with many:=l.length }:=⟨_,rfl⟩
 obtain ⟨b,hb⟩:=hb
 rw [← hb]
 refine Kh (hz:=zero_le _) ⟨dH 41 [(1,EA names o),(3,.bJ 0 1 0 0),(7,.bG 1 0),(13,cZ l),(14,.int .i64 l.length),(15,.int .i64 0)],[⟨51,11,[aK b],true,1⟩,⟨23,1,[],true,0⟩]⟩ l.length ?_ ?_ ?_
  (I:=fun m S=>∃ i ver:Nat,i+m=l.length∧S=⟨dH 41 [(1,EA names o),(3,.bJ 0 1 0 0),(7,.bG 1 ver),(13,cZ l),(14,.int .i64 l.length),(15,.int .i64 i)],[⟨51,11,[aK b],true,1⟩,vR (iQ names 0 (l.take i)) ver]⟩)
 · have e1:∀ d m X,gJ d m X (EA names o)=EA names o:=fun d m X=>by cases o <;> rfl
   simp(maxSteps:=400000)only[↓av,ax,BEq.rfl,reduceIte,reduceCtorEq,Nat.reduceLT,reduceAdd,reduceSub,reduceMul,Nat.reduceBEq,reduceLeDiff,reduceToNat,reduceLE,List.take_nil,e1]
   refine (Weak.D9 7 23 1 (by rfl)).trans ?_
   rw [rM.1,UO (m:=[(1,EA names o),(3,.bJ 0 1 0 0),(7,.bG 1 0),(13,cZ l),(14,.int .i64 l.length),(15,.int .i64 0)])]
   · exact Weak.refl _ _
   · intro i
     simp only [l6]
     by_cases h3:i=7
     · subst h3;rfl
     · simp only [h3,if_false];rfl
 · exact ⟨0,0,by omega,rfl⟩
 rintro m S ⟨i,ver,him,rfl⟩
 rcases lt_or_ge i l.length with h | h
 · have hlt:((i:Int)<(l.length:Int))=True:=eq_true (by omega)
   have zi:(0≤(i:Int))=True:=eq_true (by omega)
   have hgi:=List.getElem?_eq_getElem h
   have hpl:=Ct l hgi
   have hpe:=hne _ (List.getElem_mem h)
   generalize l[i]=p at hgi hpl hpe
   have htk:iQ names 0 (l.take (i+1))=iQ names 0 (l.take i)++[vM names i p]:=by
    rw [take_add_one,hgi]
    show iQ names 0 (l.take i++[p])=_
    rw [Cv,List.length_take,Nat.zero_add,Nat.min_eq_left (by omega)]
   obtain ⟨x,q,hpx⟩:∃ x q,p=x::q:=by
    cases p with
    | nil=>exact absurd rfl hpe
    | cons x q=>exact ⟨x,q,rfl⟩
   subst hpx
   simp only [length_cons] at hpl
   have hdl:(iQ names 0 (l.take i)).length≤100000:=by rw [(pG names _ _).2,List.length_take];omega
   have hz:∀ a b:Obj,∀ y:dS,eZ 1 2 [a,b,⟨51,11,aK y::q.map aK,true,0⟩] (.bG 2 0)=ay (y::q):=fun a b y=>M4 2 _ _ q 0 _ rfl
   have hoY:vS (x::q)=⟨51,11,aK x::q.map aK,true,0⟩:=rfl
   cases ho':o with
   | false=>
    have hnm:EA names false=.sl 0 [] (some true):=rfl
    have hnk:vM names i (x::q)=x::q:=by rw [ho ho'];rfl
    have c0:((i:Int)<((0:Nat):Int))=False:=eq_false (by omega)
    have c1:((i:Int)<0)=False:=eq_false (by omega)
    simp(maxSteps:=400000)only[↓av,ax,BEq.rfl,reduceIte,reduceCtorEq,Nat.reduceLT,reduceAdd,reduceSub,reduceMul,Nat.reduceBEq,reduceLeDiff,reduceToNat,reduceLE,hQ,hlt,zi,hgi,hnm,c0,c1,↓jo,hoY]
    refine ⟨by omega,?_⟩
    refine aO _ (Weak.freeze 1 2 ?_ _) ?_
    · exact zero_le _
    simp(maxSteps:=400000)only[↓av,ax,BEq.rfl,reduceIte,reduceCtorEq,Nat.reduceLT,reduceAdd,reduceSub,reduceMul,Nat.reduceBEq,reduceLeDiff,reduceToNat,reduceLE,hQ,hoY,hz,H_,aa0,UR,Cn,List.take_succ_cons,take_zero]
    exact ⟨by omega,by omega,⟨by omega,by omega⟩,m-1,by omega,i+1,ver+1,by omega,by rw [htk,hnk];simp only [DL,vR,map_append,map_cons,map_nil];rfl⟩
   | true=>
    have hnm:EA names true=kr names:=rfl
    cases hni:names[i]? with
    | none=>
     have hnk:vM names i (x::q)=x::q:=by simp [vM,hni]
     have c0:((i:Int)<(names.length:Int))=False:=eq_false (by have:=List.getElem?_eq_none_iff.1 hni;omega)
     simp(maxSteps:=400000)only[↓av,ax,BEq.rfl,reduceIte,reduceCtorEq,Nat.reduceLT,reduceAdd,reduceSub,reduceMul,Nat.reduceBEq,reduceLeDiff,reduceToNat,reduceLE,hQ,hlt,zi,hgi,hnm,c0,↓jo,hoY]
     refine ⟨by omega,?_⟩
     refine aO _ (Weak.freeze 1 2 ?_ _) ?_
     · exact zero_le _
     simp(maxSteps:=400000)only[↓av,ax,BEq.rfl,reduceIte,reduceCtorEq,Nat.reduceLT,reduceAdd,reduceSub,reduceMul,Nat.reduceBEq,reduceLeDiff,reduceToNat,reduceLE,hQ,hoY,hz,H_,aa0,UR,Cn,List.take_succ_cons,take_zero]
     exact ⟨by omega,by omega,⟨by omega,by omega⟩,m-1,by omega,i+1,ver+1,by omega,by rw [htk,hnk];simp only [DL,vR,map_append,map_cons,map_nil];rfl⟩
    | some nm=>
     have hnk:vM names i (x::q)={ x with name:=nm }::q:=by simp [vM,hni,Co]
     have c0:((i:Int)<(names.length:Int))=True:=eq_true (by have:=(List.getElem?_eq_some_iff.1 hni).1;omega)
     simp(maxSteps:=400000)only[↓av,ax,BEq.rfl,reduceIte,reduceCtorEq,Nat.reduceLT,reduceAdd,reduceSub,reduceMul,Nat.reduceBEq,reduceLeDiff,reduceToNat,reduceLE,hQ,hlt,zi,hgi,hnm,c0,hni,↓jo,Zv,List.set_cons_zero]
     refine ⟨by omega,by omega,?_⟩
     refine aO _ (Weak.freeze 1 2 ?_ _) ?_
     · exact zero_le _
     simp(maxSteps:=400000)only[↓av,ax,BEq.rfl,reduceIte,reduceCtorEq,Nat.reduceLT,reduceAdd,reduceSub,reduceMul,Nat.reduceBEq,reduceLeDiff,reduceToNat,reduceLE,hQ,hz,H_,aa0,UR,Cn,List.take_succ_cons,take_zero]
     exact ⟨by omega,by omega,⟨by omega,by omega⟩,m-1,by omega,i+1,ver+1,by omega,by rw [htk,hnk];simp only [DL,vR,map_append,map_cons,map_nil];rfl⟩
 · have hlt:((i:Int)<(l.length:Int))=False:=eq_false (by omega)
   have hi:l.take i=l:=List.take_of_length_le h
   have e1:∀ D:List aC,eZ 1 0 [⟨51,11,[aK b],true,1⟩,vR D ver] (.bG 1 ver)=cZ D:=fun D=>by
    simp only [vR,eZ,Nat.not_lt_zero,if_false,iU,List.getElem?_cons_succ,List.getElem?_cons_zero,zero_le,decide_true,Bool.true_and,beq_self_eq_true,if_true,DI (iU 0 0 _) (fun _=>rfl)]
    rfl
   simp(maxSteps:=400000)only[↓av,ax,BEq.rfl,reduceIte,reduceCtorEq,Nat.reduceLT,reduceAdd,reduceSub,reduceMul,Nat.reduceBEq,reduceLeDiff,reduceToNat,reduceLE,hQ,hlt,hi]
   refine aO _ (Weak.freeze 1 0 (zero_le _) _) ?_
   have e0:∀ y:Obj,eZ 1 0 [⟨51,11,[aK b],true,1⟩,y] (.bJ 0 1 0 0)=.addr (aK b):=fun _=>rfl
   simp(maxSteps:=400000)only[↓av,ax,BEq.rfl,reduceIte,reduceCtorEq,Nat.reduceLT,reduceAdd,reduceSub,reduceMul,Nat.reduceBEq,reduceLeDiff,reduceToNat,reduceLE,hQ,e1,e0,↓Cu]
   exact ⟨by have:=pG names l 0;omega,by have:=pG names l 0;omega,by rw [hb]⟩
def adb (x:PV) (p:List (List UInt8)):Prop:=x=kr p∨(x=.sl 0 [] (some true)∧p=[])
theorem ade (a:List (List UInt8)) (P:List (List UInt8)→Prop):(∃ l,adb (kr a) l∧P l)=P a:=by
 apply propext
 constructor
 · rintro ⟨l,h | ⟨h,_⟩,hp⟩
   · rw [wP _ _ h];exact hp
   · simp [kr] at h
 · exact fun h=>⟨a,.inl rfl,h⟩
theorem ZQ (P:List (List UInt8)→Prop):(∃ l,adb (.sl 0 [] (some true)) l∧P l)=P []:=by
 apply propext
 constructor
 · rintro ⟨l,h | ⟨_,rfl⟩,hp⟩
   · simp [kr] at h
   · exact hp
 · exact fun h=>⟨[],.inr ⟨rfl,rfl⟩,h⟩
def Kg (t:dS) (names:List (List UInt8)) (l:List aC):aC:={ t with many:=l.length }::(iQ names 0 l).flatten
def tZ:dD:=fun args objs K=>match args with
 | [a,x,b]=>fE aK a (HK.mk:HK fun t=>∃ names,adb x names∧fE cZ b (HK.mk:HK fun l=>names.length≤100000∧l.length≤100000∧l.flatten.length≤1000000∧(∀ p ∈ l,p≠[])∧K (ay (Kg t names l)) objs 0))
 | _=>False
theorem EB:aB Tryz.prog 59 tZ:=by
 intro args objs K h
 unfold tZ at h
 split at h
 · obtain ⟨t,rfl,names,hx,l,rfl,h1,h2,h3,h4,hk⟩:=h
   rcases hx with rfl | ⟨rfl,rfl⟩
   · exact ⟨_,_,_,.pure _ rfl (KL t names true l (by simp) h1 h2 h3 h4),hk⟩
   · exact ⟨_,_,_,.pure _ rfl (KL t [] false l (fun _=>rfl) h1 h2 h3 h4),hk⟩
 · exact h.elim
theorem ZR (t:dS) (l:List aC):Kg t [] l=iZ t l:=by
 have:∀ (l:List aC) (i:Nat),iQ [] i l=l:=by
  intro l
  induction l with
  | nil=>intro _;rfl
  | cons p l ih=>intro i;simp [iQ,ih,vM]
 simp [Kg,iZ,this]
theorem TQ (t:aC) (hl:t.length≤100000) (hne:t≠[]):ai Tryz.prog 60 [ay t] [] (ay (EX t)) []:=by
 refine Nk.bf (T:=aR Tryz.prog [(59,tZ)]) 0 hD (aj (af EB ah)) aZ (by decide) fun Q hQ=>?_
 have e:Kg ⟨2,0,[],[],0,aN⟩ [[107,101,121],[118,97,108,117,101]] [[⟨1,0,[],[],16,aN⟩],t]=EX t:=by
  simp [Kg,iQ,vM,Co,EX,Ih,oU]
 (conv=>arg 4;cbv);simp(maxSteps:=400000)only[↓av,ax,BEq.rfl,reduceIte,reduceCtorEq,Nat.reduceLT,reduceAdd,reduceSub,reduceMul,Nat.reduceBEq,reduceLeDiff,reduceToNat,reduceLE,hQ,qH,gH,gM,rT,↓tZ,ade,ZQ,e]
 refine ⟨by simp;omega,fun p hp=>?_⟩
 rcases List.mem_cons.1 hp with rfl | hp
 · simp
 · rw [List.mem_singleton.1 hp];exact hne
def Cw:dD:=fun args objs K=>match args with
 | [a0]=>fE ay a0 (HK.mk:HK fun t=>(t.length≤100000)∧(t≠[])∧K (ay (EX t)) objs 0)
 | _=>False
theorem QG:aB Tryz.prog 60 (Cw):=by
 intro args objs K h
 unfold Cw at h
 split at h
 · rename_i a0
   obtain ⟨t,rfl,h1,h2,hk⟩:=h
   exact ⟨_,_,_,.pure _ rfl (TQ t h1 h2),hk⟩
 · exact h.elim
end Lp
namespace Lp
open Go
variable {P:Program}{D:TypeId→aD}{T:Know}
def ZT (d:Nat) (t:Nat) (o':Obj) (e:Exit) (S:St):Prop:=
 (e=.normal∨e=.ret)∧∃ S' k ver o,Weak 0 S S'∧S'.tmps.getD t .dead=.lq k ver∧S'.objs[k]?=some o∧o.live=true∧o.ver=ver∧lV d k S' o=o'∧eX [o']
theorem TR {base ak:Nat→Prop}{w0:Wz}{S':St}{au:Nat→Option Nat}{a:Act}{w':World}{d k:Nat}{o:Obj}(R':Rel base ak w0 S' au a w') (ho:S'.objs[k]?=some o) (hlv:o.live=true) (hnr:eX [lV d k S' o]) :
  dF base ak [lV d k S' o] (fun j=>if j=0 then au k else none) w'∧
  ∀ v,bD w' (bQ base S'.objs au) S'.objs au (.lq k o.ver) v→bD w' (bQ base [lV d k S' o] (fun j=>if j=0 then au k else none)) [lV d k S' o] (fun j=>if j=0 then au k else none) (.lq 0 0) v:=by
 refine ⟨(C_ R' ho hlv hnr).1,fun v hx=>?_⟩
 obtain ⟨h0,o1,h1,h2,h3⟩:=hx
 rw [ho] at h1
 cases h1
 obtain ⟨hM,g,hg,hv⟩:=h3 hlv rfl
 exact ⟨h0,_,rfl,Nat.le_refl _,fun _ _=>⟨hM,g,by simp only [if_true];exact hg,hv⟩⟩
theorem ai.TS {f:FuncId}{fn:Func}{c:Code}{C:LC}{args:List PV}{o':Obj}(d:Nat){t n:Nat}(hD:∀ t,iK P t (D t)) (hT:Fj P none rJ T) (hm:P.follows .mixedOrders=true)
  (hf:P.funcs[f]?=some fn) (hname:(fn.name== "runtime.NumGoroutine")=false) (hb:fn.body=some c) (hn:fn.ntmps=n) (hr:fn.results=#[.tmp t]) (hC:strip C=comp c)
  (h:kS P D T C (ZT d t o') (bU args n)):ai P f args [] (.lq 0 0) [o']:=by
 refine ⟨⟨fn,hf,hname,by rw [hb];rfl⟩,fun w blk vs base hbase _ hargs=>?_⟩
 have hpw:PW P none rJ c (ZT d t o') (bU args n):=pV hD hm C _ _ _ c _ _ hT hC h
 have R:=xK hbase hargs n
 have hw:=hpw _ _ (fun x=>(⟨w.heap,[],0,w⟩:Wz)=x) (by rintro z rfl;exact ⟨rfl,rfl⟩) _ _ _ ⟨_,rfl,R⟩
 rw [← callsIn_wide (n:=0)]
 refine callsIn_of_wp_marks hf hb trivial ?_
 rw [hn]
 refine wpIn_mono hw ?_
 rintro e a' w' ⟨S0,Yb,⟨he,S',k,ver,o,hwk,ht,ho,hlv,hv,rfl,hnr⟩,_,rfl,R0⟩
 obtain ⟨au,R'⟩:=hwk _ _ _ _ _ _ (Nat.le_refl _) R0
 have key:∀ w',Rel base (fun b=>b<w.heap.size∧aW [] blk b) ⟨w.heap,[],0,w⟩ S' au { a' with defers:=[] } w'→∃ v,(results fn a'.tmps).run P w'=.ok v w'∧(∃ v' mG,Ending.returned v=.returned v'∧
     dF base (fun b=>b<w.heap.size∧aW [] blk b) [lV d k S' o] mG w'∧
     aV w' (bQ base [lV d k S' o] mG) [lV d k S' o] mG (.lq 0 0) v'∧(∀ b,b<w.heap.size→aW [] blk b→w'.heap[b]?=w.heap[b]?)∧w.heap.size≤w'.heap.size∧Sm w w'):=by
  intro w' R'
  have hx:=R'.ev (.tmp t)
  change aV w' _ _ au (S'.tmps.getD t .dead) (a'.tmps.getD t undef) at hx
  rw [ht,← hv] at hx
  obtain ⟨c1,c2⟩:=TR (d:=d) R' ho hlv hnr
  exact ⟨_,results_tmp hr _ _ _,a'.tmps.getD t undef,_,rfl,c1,c2 _ hx,fun b hb1 hb2=>R'.fr b ⟨hb1,hb2⟩,R'.gr,R'.sm⟩
 rcases he with rfl | rfl <;> exact nN _ _ R' key
structure ab7 (d t:Nat) (o':Obj) (S:St):Prop where
 h:ZT d t o' .ret S
theorem aeD {d t n:Nat}{o':Obj}{l:List (Nat×PV)}{ob:List Obj}{k ver:Nat}{o:Obj}(h1:(dH n l).getD t .dead=.lq k ver) (h2:ob[k]?=some o) (h3:o.live=true) (h4:o.ver=ver) (h5:{ fB d (k+1) ob o with ver:=0 }=o') (h6:eX [o']):ab7 d t o' ⟨dH n l,ob⟩:=
 ⟨.inr rfl,_,k,ver,o,Weak.refl _ _,h1,h2,h3,h4,h5,h6⟩
theorem aP.adf {f:FuncId}{n t:Nat}{C:LC}{args:List PV}{o':Obj}(h:aP P f n [.tmp t] C) (d:Nat) (hD:∀ t,iK P t (D t)) (hT:Fj P none rJ T) (hm:P.follows .mixedOrders=true)
  (hw:∀ Q:Exit→St→Prop,(∀ l ob,Q .ret ⟨dH n l,ob⟩=ab7 d t o' ⟨dH n l,ob⟩)→kS P D T C Q (bU args n)):ai P f args [] (.lq 0 0) [o']:=by
 obtain ⟨fn,c,h1,h2,h3,h4,h5,h6⟩:=h
 exact ai.TS d hD hT hm h1 h2 h3 h4 h5 h6 (hw _ fun l ob=>propext ⟨fun h=>⟨h⟩,fun h=>h.h⟩)
theorem aa8 {k kv n k' kv' n':Nat}{seen seen':List Nat}{i i' v v':Nat}(h:vT k kv n (seen++[i]) v=vT k' kv' n' (seen'++[i']) v'):k=k'∧kv=kv'∧n=n'∧i=i':=by
 simp only [vT,Obj.mk.injEq,List.cons.injEq,PV.lq.injEq,PV.int.injEq,true_and,List.map_append,List.map_cons,List.map_nil] at h
 obtain ⟨⟨⟨h1,h2⟩,h3,h4⟩,_⟩:=h
 obtain ⟨_,h5⟩:=List.append_inj' h4 rfl
 simp only [List.cons.injEq,PV.int.injEq,true_and,and_true] at h5
 exact ⟨h1,h2,by omega,by omega⟩
theorem adg {objs:List Obj}{j ver k kv n i:Nat}{seen:List Nat}{mo:Obj}{key v:PV}(h1:objs[j]?=some (vT k kv n (seen++[i]) ver)) (h2:objs[k]?=some mo) (h3:mo.live=true) (h4:mo.ver=kv) (h5:mo.sz=2) (h6:mo.xs.length=n) (h7:mo.xs[i]?=some (.agg [key,v])) (K:KT) :
  uF (.lq j ver) objs K=K (.bZ [key,v]) objs 1:=by
 refine propext ⟨fun h=>?_,fun h=>⟨k,kv,n,seen,i,mo,key,v,h1,h2,h3,h4,h5,h6,h7,h⟩⟩
 obtain ⟨k',kv',n',seen',i',mo',key',v',g1,g2,_,_,_,_,g7,hk⟩:=h
 rw [h1] at g1
 obtain ⟨rfl,rfl,rfl,rfl⟩:=aa8 (Option.some.inj g1)
 rw [h2] at g2;cases g2
 rw [h7] at g7
 cases g7
 exact hk
end Lp
namespace Lp
open Go Go.Proofs
def o7 (p:List UInt8×aC):PV:=.agg [.str p.1,ay p.2]
def TT (l:List (List UInt8×aC)):Obj:=⟨MT,2,l.map o7,true,1⟩
theorem KM {α:Type}(enc:α→PV) (nm:List UInt8):∀ (l:List (List UInt8×α)) (i:Nat),(∀ p ∈ l,p.1≠nm)→qQ .str (.str nm) (l.map fun p=>.agg [.str p.1,enc p.2]) i=some none
 | [],_,_=>rfl
 | p::l,i,h=>by
  have h1:(decide (nm=p.1))=false:=decide_eq_false fun e=>h p (List.mem_cons_self ..) e.symm
  simp only [List.map_cons,qQ,Vg,h1]
  exact KM enc nm l (i+1) fun q hq=>h q (List.mem_cons_of_mem _ hq)
theorem ZU (d n:Nat) (objs:List Obj) (l:List (List UInt8×aC)):(l.map o7).map (PV.bI (eZ d n objs))=l.map o7:=by
 rw [List.map_map]
 refine List.map_congr_left fun x _=>?_
 have h:eZ d n objs (ay x.2)=ay x.2:=by cases d <;> rfl
 show PV.agg [eZ d n objs (.str x.1),eZ d n objs (ay x.2)]=o7 x
 rw [h]
 cases d <;> rfl
theorem KN (l:List (List UInt8×aC)) (v:Nat):eX [{ TT l with ver:=v }]:=by
 intro o ho x hx p hp
 simp only [List.mem_singleton] at ho
 subst ho
 simp only [TT,List.mem_map] at hx
 obtain ⟨n,_,rfl⟩:=hx
 simp only [o7,PV.cells,List.mem_cons,List.not_mem_nil,or_false] at hp
 rcases hp with rfl | rfl <;> rfl
theorem Xo (ps:List aC){i:Nat}{y:dS}{q:aC}(h:ps[i]?=some (y::q)):ps.flatten[(ps.take i).flatten.length]?=some y:=by
 have e:ps.flatten=(ps.take i).flatten++(ps.drop i).flatten:=by rw [← List.flatten_append,List.take_append_drop]
 have hl:=(List.getElem?_eq_some_iff.1 h).1
 have hd:ps.drop i=(y::q)::ps.drop (i+1):=by
  rw [List.drop_eq_getElem_cons hl]
  rw [List.getElem?_eq_getElem hl] at h
  rw [Option.some.inj h]
 rw [e,List.getElem?_append_right (Nat.le_refl _),Nat.sub_self,hd]
 rfl
theorem JJ {α β:Type}{a:List α}{b:List β}{i:Nat}{x:α}{y:β}(h1:a[i]?=some x) (h2:b[i]?=some y):(a.zip b).take (i+1)=(a.zip b).take i++[(x,y)]:=by
 have:(a.zip b)[i]?=some (x,y):=by rw [List.getElem?_zip_eq_some];exact ⟨h1,h2⟩
 rw [List.take_add_one,this];rfl
theorem Np (t:aC) (ho:Y.One t) (hl:t.length≤100000) (hk:Y.kindOf t=2) (hn:(gI t).Nodup):ai Tryz.prog 90 [ay t] [] (.lq 0 0) [{ TT (dN t) with ver:=0 }]:=by
 refine JH.adf (T:=aR Tryz.prog [(52,kF)]) 0 hD (aj (af rV ah)) aZ fun Q hQ=>?_
 obtain ⟨n,r,ps,hv,hm,hp,hfl,hps,hpo,hmn,GH⟩:=qB t ho
 have hn2:n.kind=2:=by rw [hv] at hk;exact hk
 have hpt:aF t=ps.map Y.jX:=by rw [hv,aF,if_neg (by omega),hpo]
 have hnt:gI t=ps.map Y.nameOf:=by rw [hv,gI,if_pos hn2,hpo]
 (conv=>arg 4;cbv);simp(maxSteps:=400000)only[↓av,ax,BEq.rfl,reduceIte,reduceCtorEq,Nat.reduceLT,Nat.reduceAdd,Nat.reduceSub,Nat.reduceMul,Nat.reduceBEq,Nat.reduceLeDiff,Int.reduceToNat,Int.reduceLE,hQ,↓WE,kU,↓kF]
 refine ⟨ho,by omega,?_⟩
 have hpl:(aF t).length=ps.length:=by rw [hpt,List.length_map]
 refine aH (fun m S=>∃ i:Nat,i+m=ps.length∧S=⟨dH 28 [(0,ay t),(3,.lq 0 1),(4,.int .i64 (1+(ps.take i).flatten.length:Nat)),(9,cZ (aF t)),(10,.int .i64 (aF t).length),(11,.int .i64 i)],[TT ((dN t).take i)]⟩) ps.length ⟨0,by omega,?_⟩ ?_
 · simp only [bV,keepR,Nat.reduceAdd,ng,Nat.reduceBEq,List.map_nil]
   rfl
 rintro m S ⟨i,him,rfl⟩
 rcases Nat.lt_or_ge i ps.length with h | h
 · have hlt:((i:Int)<((aF t).length:Int))=True:=eq_true (by omega)
   have zi:(0≤(i:Int))=True:=eq_true (by omega)
   have hgi:=List.getElem?_eq_getElem h
   have hpe:=(hps _ (List.getElem_mem h)).ne
   have adh:=Ct ps hgi
   have htf:=Nl ps hgi
   generalize ps[i]=p at hgi hpe adh htf
   obtain ⟨y,q,rfl⟩:∃ y q,p=y::q:=by
    cases p with
    | nil=>exact absurd rfl hpe
    | cons y q=>exact ⟨y,q,rfl⟩
   have hgp:(aF t)[i]?=some (Y.jX (y::q)):=by rw [hpt,List.getElem?_map,hgi];rfl
   have hgn:(gI t)[i]?=some y.name:=by rw [hnt,List.getElem?_map,hgi];rfl
   have hgt:t[1+(ps.take i).flatten.length]?=some y:=by
    rw [hv,Nat.add_comm,List.getElem?_cons_succ,← hfl]
    exact Xo ps hgi
   have hat:(((1+(ps.take i).flatten.length:Nat):Int)<(t.length:Int))=True:=eq_true (by have:=(List.getElem?_eq_some_iff.1 hgt).1;omega)
   have zat:(0≤((1+(ps.take i).flatten.length:Nat):Int))=True:=eq_true (by omega)
   have hmf:qQ .str (.str y.name) (((dN t).take i).map o7) 0=some none:=KM ay y.name _ 0 fun p hp e=>by
    obtain ⟨j,hj⟩:=List.mem_iff_getElem?.1 hp
    rw [List.getElem?_take] at hj
    split at hj
    · rename_i hji
      have hz:=hj
      unfold dN at hz
      rw [List.getElem?_zip_eq_some] at hz
      have h1:=hz.1
      rw [e,← hgn] at h1
      have hjl:=(List.getElem?_eq_some_iff.1 hz.1).1
      have:=(List.getElem?_inj hjl hn).1 h1
      omega
    · cases hj
   unfold TT
   simp(maxSteps:=400000)only[↓av,ax,BEq.rfl,reduceIte,reduceCtorEq,Nat.reduceLT,Nat.reduceAdd,Nat.reduceSub,Nat.reduceMul,Nat.reduceBEq,Nat.reduceLeDiff,Int.reduceToNat,Int.reduceLE,hQ,hlt,zi,hgp,hat,zat,hgt,↓WE,gu,Int.toNat_natCast]
   have ht2:=JJ hgn hgp
   have afr:ps.flatten.length≤100000:=by rw [hfl];rw [hv] at hl;simp only [List.length_cons] at hl;omega
   have hcl:(Y.jX (y::q)).length=(y::q).length:=Y.gW _
   rw [hcl]
   generalize hyl:(y::q).length=yl at adh htf
   have afF:=Nat.le_trans adh afr
   have hrl:r.length+1=t.length:=by rw [hv];rfl
   refine ⟨.inl trivial,none,hmf,⟨by omega,by omega⟩,⟨by omega,by omega⟩,m-1,by omega,i+1,by omega,?_⟩
   have afs:(((1+(ps.take i).flatten.length:Nat):Int)+(yl:Int))=((1+(ps.take (i+1)).flatten.length:Nat):Int):=by rw [htf,List.length_append,hyl];omega
   rw [afs]
   show _=(⟨_,[⟨MT,2,(((dN t).take (i+1)).map o7),true,1⟩]⟩:St)
   rw [show (dN t).take (i+1)=(dN t).take i++[(y.name,Y.jX (y::q))] from ht2]
   simp only [F7,List.map_append,List.map_cons,List.map_nil,List.length_append]
   rfl
 · have hlt:((i:Int)<((aF t).length:Int))=False:=eq_false (by omega)
   have hi:(dN t).take i=dN t:=List.take_of_length_le (by simp only [dN,List.length_zip,hpl];omega)
   unfold TT
   simp(maxSteps:=400000)only[↓av,ax,BEq.rfl,reduceIte,reduceCtorEq,Nat.reduceLT,Nat.reduceAdd,Nat.reduceSub,Nat.reduceMul,Nat.reduceBEq,Nat.reduceLeDiff,Int.reduceToNat,Int.reduceLE,hQ,hlt]
   rw [hi]
   exact aeD (k:=0) (ver:=1) rfl rfl rfl rfl (by simp only [fB,ZU];rfl) (KN _ 0)
end Lp
namespace Lp
open Go
variable {pk:List UInt8→Bool}{qF:List UInt8→List Stp}
theorem Xp {m:Int}{l:List iA}(h:(kN m l).2=true):∃ c,cO m l c=true:=by
 unfold kN at h
 split at h
 · rename_i c hc;exact ⟨c,by simpa using List.find?_some hc⟩
 · cases h
theorem ZV {t:aC}{A:List iA}{x:iA}(hx:x ∈ A) (hn:0≤x.n∧x.n≤5):rq t A x=false:=by
 cases h:rq t A x with
 | false=>rfl
 | true=>
  obtain ⟨c,hc⟩:=Xp h
  simp only [cO,Bool.and_eq_true,List.all_eq_true] at hc
  have h1:=hc.2 x (by simp [hx])
  have h2:=hc.2 (Ez x) (by simp)
  have h3:jO (Ez x) c=!jO x c:=U3 x.n _ hn.1 hn.2
  rw [h3,h1] at h2;cases h2
theorem ZW {t u:aC}(hm:∀ k:Nat,k<5→nk (gU t) k=true→nk (gU u) k=true) (ha:∀ x ∈ bW u,x ∈ bW t∧0≤x.n∧x.n≤5):tY t u=true:=by
 have h1:(List.range 5).any (rW t u)=false:=by
  rw [List.any_eq_false]
  intro k hk
  have hk5:k<5:=by simpa using hk
  unfold rW
  cases h:nk (gU t) k with
  | false=>simp
  | true=>rw [hm k hk5 h];simp
 have h2:(bW u).any (rq t (bW t))=false:=by
  rw [List.any_eq_false]
  intro x hx
  rw [ZV (ha x hx).1 (ha x hx).2];simp
 unfold tY
 rw [h1,h2];rfl
theorem rZ.QH {t:aC}(h:rZ pk qF t):∀ x ∈ bW t,0≤x.n∧x.n≤5∧jC x=true:=by
 intro x hx
 cases t with
 | nil=>cases hx
 | cons n r=>
  by_cases hk:n.kind=1
  · obtain ⟨h1,_,h3,_⟩:=FU h hk
    rw [h1] at hx
    obtain ⟨y,hy,rfl⟩:=List.mem_map.1 hx
    have:=(h3 y hy).1
    have h4:=this
    simp only [jC,Bool.and_eq_true,decide_eq_true_eq] at h4
    exact ⟨h4.1.1,h4.1.2,this⟩
  · simp [bW,hk] at hx
theorem rZ.kinds {t:aC}(h:rZ pk qF t):0≤Y.kindOf t∧Y.kindOf t≤8:=by
 cases t with
 | nil=>exact absurd rfl h.one.ne
 | cons n r=>
  have h9:n.kind≠9:=h.kind
  have h1:=h.parts.1
  show 0≤n.kind∧n.kind≤8
  unfold bR at h1
  repeat' (split at h1;· omega)
  cases h1
theorem UW {α:Type}:∀ (names:List (List UInt8)) (l:List α) (k:List UInt8) (v:α),names.Nodup→(k,v) ∈ names.zip l→Xh k (names.zip l)=some v
 | [],l,k,v,_,h=>by simp at h
 | n::ns,[],k,v,_,h=>by simp at h
 | n::ns,x::l,k,v,hn,h=>by
  obtain ⟨h1,h2⟩:=List.nodup_cons.1 hn
  simp only [List.zip_cons_cons,List.mem_cons,Prod.mk.injEq] at h
  simp only [List.zip_cons_cons,Xh]
  rcases h with ⟨rfl,rfl⟩ | h
  · simp
  · have:n≠k:=fun e=>h1 (by rw [e];exact (List.of_mem_zip h).1)
    rw [if_neg this]
    exact UW ns l k v h2 h
theorem rZ.adi {t:aC}(h:rZ pk qF t) (hk:Y.kindOf t=2):(gI t).Nodup∧(gI t).length=(aF t).length:=by
 cases t with
 | nil=>exact absurd rfl h.one.ne
 | cons n r=>
  obtain ⟨h1,_,_⟩:=qL.1 (h.names hk).1
  exact ⟨FP (h.names hk).2,h1⟩
theorem rZ.adj {t:aC}(h:rZ pk qF t) (hk:Y.kindOf t=2):gU t=0∨gU t=1:=by
 cases t with
 | nil=>exact absurd rfl h.one.ne
 | cons n r=>
  have hk':n.kind=2:=hk
  have h1:=h.parts.1
  simp [bR,hk'] at h1
  exact h1.1.1.2
theorem aa9 {t u:aC}(S:aC→aC→Bool) (ht:(gI t).Nodup) (hf:∀ nm q,(nm,q) ∈ dN u→∃ x,(nm,x) ∈ dN t∧S x q=true) (hm:gU u=1∨gU t=0∧vL t=vL u):xk S t u=true:=by
 have h1:(dN u).all (vk S t)=true:=by
  rw [List.all_eq_true]
  rintro ⟨nm,q⟩ hp
  obtain ⟨x,h1,h2⟩:=hf nm q hp
  unfold vk
  rw [show Xh (nm,q).1 (dN t)=some x from UW _ _ _ _ ht h1]
  exact h2
 unfold xk
 rw [h1,Bool.true_and,Bool.or_eq_true,Bool.and_eq_true]
 simpa using hm
theorem Ik {S:aC→aC→Bool}:∀ (l:List aC),(∀ x ∈ l,S x x=true)→fu S l l=true
 | [],_=>rfl
 | x::l,h=>by
  rw [fu,h x (List.mem_cons_self ..),Bool.true_and]
  exact Ik l fun y hy=>h y (List.mem_cons_of_mem _ hy)
theorem Cx:∀ (f:Nat) (t:aC),t.length≤f→rZ pk qF t→gP t t=true
 | 0,t,h,hr=>by have:=hr.one.ne;cases t <;> simp at h this
 | f+1,[],_,hr=>absurd rfl hr.one.ne
 | f+1,n::r,h,hr=>by
  simp only [List.length_cons] at h
  have ih:∀ x ∈ aF (n::r),gP x x=true:=fun x hx=>by
   have:=hr.part x hx
   exact Cx f x (by omega) this.1
  obtain ⟨k0,k8⟩:=hr.kinds
  rw [Cq _ hr]
  generalize hk:Y.kindOf (n::r)=k at *
  unfold mY
  rw [hk]
  by_cases h1:k=1
  · rw [if_pos ⟨h1,h1⟩]
    exact ZW (fun _ _ h=>h) fun x hx=>⟨hx,(hr.QH x hx).1,(hr.QH x hx).2.1⟩
  rw [if_neg (by omega)]
  by_cases h2:k=2
  · rw [if_pos ⟨h2,h2⟩]
    obtain ⟨f1,f2⟩:=hr.adi (by omega)
    refine aa9 _ f1 (fun nm q hp=>⟨q,hp,ih q (List.of_mem_zip hp).2⟩) ?_
    rcases hr.adj (by omega) with h | h
    · exact .inr ⟨h,rfl⟩
    · exact .inl h
  rw [if_neg (by omega),if_neg (by omega),if_neg (by omega)]
  by_cases h5:k=5
  · rw [if_pos ⟨.inr (.inr h5),h5⟩]
    obtain ⟨p,hp⟩:=hr.xq (by omega)
    have:=ih p (by rw [hp];simp)
    simp [Na,y0,hp,this]
  rw [if_neg (by omega),if_neg (by omega),if_neg (by omega)]
  by_cases h0:k=0
  · rw [if_pos h0]
  · rw [if_neg h0,Ik _ ih];simp
theorem rZ.Cx {t:aC}(h:rZ pk qF t):gP t t=true:=Lp.Cx t.length t (Nat.le_refl _) h
structure aft (a:iA) (t u:aC) (s:Stp) (p:List Stp) (A:List aC) (q:aC) (B:List aC) (j:Nat):Prop where
 kind:Y.kindOf t=2∧Y.kindOf u=2
 part:s.part=false
 aF:aF t=A++q::B
 afu:Lp.aF u=A++Xb q j a::B
 afv:gI u=gI t
 name:(gI t)[A.length]?=some s.name
 leaf:iY p q=some j
 jlt:j<q.length
 rest:gU u=gU t∧vL u=vL t∧Ay u=Ay t
end Lp
namespace Lp
open Go Go.Proofs
open Nat (reduceAdd reduceLeDiff reduceMul reduceSub)
open Int (reduceLE reduceToNat)
def rz (l:List (List UInt8×aC)):Obj:=⟨MT,2,l.map o7,true,0⟩
def Cy:dD:=fun args objs K=>match args with
 | [a]=>fE ay a (HK.mk:HK fun t=>Y.One t∧t.length≤100000∧Y.kindOf t=2∧(gI t).Nodup∧K (.lq objs.length 0) (objs++[rz (dN t)]) 2)
 | _=>False
theorem QI:aB Tryz.prog 90 Cy:=by
 intro args objs K h
 unfold Cy at h
 split at h
 · obtain ⟨t,rfl,h1,h2,h3,h4,hk⟩:=h
   have h:=mE.made (P:=Tryz.prog) (objs:=objs) _ _ rfl (KN (dN t) 0) (Np t h1 h2 h3 h4)
   exact ⟨_,_,_,h,by simpa [PV.shift,PV.qc,rz,TT] using hk⟩
 · exact h.elim
theorem QJ (nm:List UInt8):∀ (l:List (List UInt8×aC)) (i:Nat),∃ j,qQ .str (.str nm) (l.map o7) i=some ((Xh nm l).map fun x=>(j,ay x))
 | [],i=>⟨0,rfl⟩
 | (k,v)::l,i=>by
  by_cases h:k=nm
  · subst h
    refine ⟨i,?_⟩
    simp [qQ,o7,Vg,Xh]
  · obtain ⟨j,hj⟩:=QJ nm l (i+1)
    have h1:decide (nm=k)=false:=decide_eq_false fun e=>h e.symm
    exact ⟨j,by simp only [List.map_cons,qQ,o7,Vg,h1,Xh,if_neg h];exact hj⟩
theorem adk {l:List (List UInt8×aC)}{i:Nat}{key v:PV}(h:(l.map o7)[i]?=some (.agg [key,v])):∃ p,l[i]?=some p∧key=.str p.1∧v=ay p.2:=by
 rw [List.getElem?_map] at h
 cases hp:l[i]? with
 | none=>rw [hp] at h;cases h
 | some p=>
  rw [hp] at h
  simp only [Option.map_some,Option.some.injEq,o7,PV.agg.injEq,List.cons.injEq,and_true] at h
  exact ⟨p,rfl,h.1.symm,h.2.symm⟩
theorem aa_ {nm:List UInt8}{t x:aC}(h:Xh nm (dN t)=some x):x ∈ aF t:=by
 have:∀ (l:List (List UInt8×aC)),Xh nm l=some x→∃ k,(k,x) ∈ l:=by
  intro l
  induction l with
  | nil=>intro h;cases h
  | cons p l ih=>
   intro h
   obtain ⟨k,v⟩:=p
   rw [Xh] at h
   split at h
   · cases h;exact ⟨k,List.mem_cons_self ..⟩
   · obtain ⟨k',hk⟩:=ih h;exact ⟨k',List.mem_cons_of_mem _ hk⟩
 obtain ⟨k,hk⟩:=this _ h
 exact (List.of_mem_zip hk).2
structure eF (t:aC):Prop where
 rt:rZ bA eD t
 len:t.length≤50000
 cs:∀ n ∈ t,n.c.s.length≤500000
theorem eF.part {t p:aC}(h:eF t) (hp:p ∈ aF t):eF p∧p.length<t.length:=by
 cases t with
 | nil=>cases hp
 | cons n r=>
  have h1:=h.rt.part p hp
  have hl:=h.len
  simp only [List.length_cons] at hl ⊢
  refine ⟨⟨h1.1,by omega,fun m hm=>?_⟩,by omega⟩
  by_cases hk:n.kind=1
  · simp only [aF,hk,if_true] at hp;cases hp
  · simp only [aF,hk,if_false] at hp
    obtain ⟨_,_,ps,h3,h4,_⟩:=h.rt.parts
    rw [iC h3] at hp
    obtain ⟨q,hq,rfl⟩:=List.mem_map.1 hp
    have hqm:∀ y ∈ q,y ∈ n::r:=fun y hy=>List.mem_cons_of_mem _ (by rw [← h4];exact List.mem_flatten.2 ⟨q,hq,hy⟩)
    cases q with
    | nil=>cases hm
    | cons y q=>
     rcases List.mem_cons.1 hm with rfl | hm
     · exact h.cs y (hqm y (List.mem_cons_self ..))
     · exact h.cs m (hqm m (List.mem_cons_of_mem _ hm))
def dL (k:Nat):dD:=fun args objs K=>match args with
 | [a,b]=>fE ay a (HK.mk:HK fun t=>fE ay b (HK.mk:HK fun u=>eF t∧eF u∧u.length<k∧t.length+2*u.length≤50000∧K (.bool (gP t u)) objs 0))
 | _=>False
theorem JK (k:Nat) (hS:aB Tryz.prog 20 (dL k)) (t u:aC) (ht:eF t) (hu:eF u) (hk:u.length≤k) (hl:t.length+2*u.length≤50000) (kt:Y.kindOf t=2) (ku:Y.kindOf u=2) :
  ai Tryz.prog 58 [ay t,ay u] [] (.bool (xk gP t u)) []:=by
 refine EY.bf (T:=aR Tryz.prog [(90,Cy),(20,dL k)]) 0 hD (aj (af QI (af hS ah))) aZ (by decide) fun Q hQ=>?_
 obtain ⟨n,hn,hmn,hmy⟩:∃ n,t[0]?=some n∧n.n=gU t∧n.many=vL t:=by
  cases t with
  | nil=>exact absurd rfl ht.rt.one.ne
  | cons n r=>exact ⟨n,rfl,rfl,rfl⟩
 obtain ⟨n',hn',hmn',hmy'⟩:∃ n,u[0]?=some n∧n.n=gU u∧n.many=vL u:=by
  cases u with
  | nil=>exact absurd rfl hu.rt.one.ne
  | cons n r=>exact ⟨n,rfl,rfl,rfl⟩
 obtain ⟨a1,a2⟩:=ht.rt.adi kt
 obtain ⟨b1,b2⟩:=hu.rt.adi ku
 have htl:=ht.len
 have hul:=hu.len
 have r0:∀ l,(rz l).live=true∧(rz l).ver=0∧(rz l).sz=2∧(rz l).xs=l.map o7:=fun _=>⟨rfl,rfl,rfl,rfl⟩
 (conv=>arg 4;cbv);simp(maxSteps:=400000)only[↓av,ax,BEq.rfl,reduceIte,reduceCtorEq,Nat.reduceLT,reduceAdd,reduceSub,reduceMul,Nat.reduceBEq,reduceLeDiff,reduceToNat,reduceLE,hQ,↓Cy,↓YC,uE,r0]
 refine ⟨ht.rt.one,by omega,kt,a1,hu.rt.one,by omega,ku,b1,?_⟩
 refine aH (fun m S=>∃ seen rem:List Nat,rem.length=m∧(∀ j,j<(dN u).length→j ∈ seen∨j ∈ rem)∧(∀ j ∈ seen,∀ p,(dN u)[j]?=some p→vk gP t p=true)∧
  S=⟨dH 57 [(0,ay t),(1,ay u),(5,.lq 0 0),(14,.lq 2 1)],[rz (dN t),rz (dN u),vT 1 0 (dN u).length seen 1]⟩) (dN u).length ⟨[],List.range (dN u).length,by simp,fun j hj=>.inr (List.mem_range.2 hj),fun j hj=>absurd hj List.not_mem_nil,?_⟩ ?_
 · simp only [bV,keepR,reduceAdd,ng,Nat.reduceBEq,List.map_nil]
 rintro m S ⟨seen,rem,hrm,hsr,hgood,rfl⟩
 have afx:∀ v,vk gP t v=true∨vk gP t v=false:=fun v=>by cases vk gP t v <;> simp
 simp(maxSteps:=400000)only[↓av,ax,BEq.rfl,reduceIte,reduceCtorEq,Nat.reduceLT,reduceAdd,reduceSub,reduceMul,Nat.reduceBEq,reduceLeDiff,reduceToNat,reduceLE,hQ,↓YC]
 refine ⟨1,0,_,seen,_,rfl,rfl,rfl,rfl,rfl,by simp [rz],fun hall=>?_,fun i key v hns hx=>?_⟩
 · have hF:(dN u).all (vk gP t)=true:=by
    rw [List.all_eq_true]
    intro p hp
    obtain ⟨j,hj⟩:=List.mem_iff_getElem?.1 hp
    have hjl:=(List.getElem?_eq_some_iff.1 hj).1
    exact hgood j (hall j hjl) p hj
   have hO:xk gP t u=(decide (gU u=1) || decide (gU t=0) && decide (vL t=vL u)):=by rw [xk,hF,Bool.true_and]
   by_cases h1:gU u=1
   · have hr:xk gP t u=true:=by rw [hO];simp [h1]
     have h1':=eq_true h1
     simp(maxSteps:=400000)only[↓av,ax,BEq.rfl,reduceIte,reduceCtorEq,Nat.reduceLT,reduceAdd,reduceSub,reduceMul,Nat.reduceBEq,reduceLeDiff,reduceToNat,reduceLE,hQ,bg,hn,hn',hmn,hmn',hmy,hmy',hr,h1']
   · have h1':=eq_false h1
     by_cases h2:gU t=0
     · have h2':=eq_true h2
       have hr:xk gP t u=decide (vL t=vL u):=by rw [hO];simp [h1,h2]
       simp(maxSteps:=400000)only[↓av,ax,BEq.rfl,reduceIte,reduceCtorEq,Nat.reduceLT,reduceAdd,reduceSub,reduceMul,Nat.reduceBEq,reduceLeDiff,reduceToNat,reduceLE,hQ,bg,hn,hn',hmn,hmn',hmy,hmy',hr,h1',h2']
     · have h2':=eq_false h2
       have hr:xk gP t u=false:=by rw [hO];simp [h1,h2]
       simp(maxSteps:=400000)only[↓av,ax,BEq.rfl,reduceIte,reduceCtorEq,Nat.reduceLT,reduceAdd,reduceSub,reduceMul,Nat.reduceBEq,reduceLeDiff,reduceToNat,reduceLE,hQ,bg,hn,hn',hmn,hmn',hmy,hmy',hr,h1',h2']
 · have hx':((dN u).map o7)[i]?=some (.agg [key,v]):=hx
   obtain ⟨p,hp,rfl,rfl⟩:=adk hx'
   obtain ⟨j,hj⟩:=QJ p.1 (dN t) 0
   have hpm:p ∈ dN u:=List.mem_of_getElem? hp
   have he:∀ K,uF (.lq 2 1) [rz (dN t),rz (dN u),vT 1 0 (dN u).length (seen++[i]) 1] K=K (.bZ [.str p.1,ay p.2]) [rz (dN t),rz (dN u),vT 1 0 (dN u).length (seen++[i]) 1] 1:=fun K=>adg (mo:=rz (dN u)) rfl rfl rfl rfl rfl (by show ((dN u).map o7).length=_;rw [List.length_map]) hx' K
   cases hat:Xh p.1 (dN t) with
   | none=>
    simp only [hat,Option.map_none] at hj
    have hr:xk gP t u=false:=by
     have:(dN u).all (vk gP t)=false:=by
      rw [List.all_eq_false]
      exact ⟨p,hpm,by simp [vk,hat]⟩
     rw [xk,this,Bool.false_and]
    simp(maxSteps:=400000)only[↓av,ax,BEq.rfl,reduceIte,reduceCtorEq,Nat.reduceLT,reduceAdd,reduceSub,reduceMul,Nat.reduceBEq,reduceLeDiff,reduceToNat,reduceLE,hQ,bg,↓YC,↓he,↓WE,lC,r0,hj,SE,true_or]
    exact hr
   | some x=>
    simp only [hat,Option.map_some] at hj
    have hxm:x ∈ aF t:=aa_ hat
    have hxo:=ht.part hxm
    have hpo:=hu.part (List.of_mem_zip (a:=p.1) (b:=p.2) hpm).2
    have hxl:p.2.length<k:=by omega
    have hsum:x.length+2*p.2.length≤50000:=by omega
    cases hsb:gP x p.2 with
    | false=>
     have hr:xk gP t u=false:=by
      have:(dN u).all (vk gP t)=false:=by
       rw [List.all_eq_false]
       exact ⟨p,hpm,by simp [vk,hat,hsb]⟩
      rw [xk,this,Bool.false_and]
     simp(maxSteps:=400000)only[↓av,ax,BEq.rfl,reduceIte,reduceCtorEq,Nat.reduceLT,reduceAdd,reduceSub,reduceMul,Nat.reduceBEq,reduceLeDiff,reduceToNat,reduceLE,hQ,bg,↓YC,↓he,↓WE,lC,r0,hj,SE,true_or,↓dL,hsb]
     exact ⟨hxo.1,hpo.1,hxl,hsum,hr⟩
    | true=>
     have hfs:vk gP t p=true:=by simp [vk,hat,hsb]
     simp(maxSteps:=400000)only[↓av,ax,BEq.rfl,reduceIte,reduceCtorEq,Nat.reduceLT,reduceAdd,reduceSub,reduceMul,Nat.reduceBEq,reduceLeDiff,reduceToNat,reduceLE,hQ,bg,↓YC,↓he,↓WE,lC,r0,hj,SE,true_or,↓dL,hsb]
     have hil:=(List.getElem?_eq_some_iff.1 hp).1
     have him:i ∈ rem:=(hsr i hil).resolve_left hns
     have hel:=List.length_erase_of_mem him
     have hpos:=List.length_pos_of_mem him
     refine ⟨hxo.1,hpo.1,hxl,hsum,m-1,by omega,seen++[i],rem.erase i,by omega,fun j hj=>?_,fun j hj q hq=>?_,rfl⟩
     · rcases hsr j hj with h | h
       · exact .inl (List.mem_append_left _ h)
       · by_cases e:j=i
         · exact .inl (by rw [e];simp)
         · exact .inr ((List.mem_erase_of_ne e).2 h)
     · rcases List.mem_append.1 hj with h | h
       · exact hgood j h q hq
       · rw [List.mem_singleton.1 h,hp] at hq
         cases hq
         exact hfs
end Lp
namespace Lp
open Go Go.Proofs
open Nat (lt_or_ge reduceAdd reduceLeDiff reduceMul reduceSub)
open Int (reduceLE reduceToNat)
def rY (k:Nat) (ys l:List aC):Prop:=∃ y,ys[0]?=some y∧eF y∧y.length<k∧∀ p ∈ l,eF p∧p.length+2*y.length≤50000
def oK (ys:List aC) (p:aC):Bool:=Bool.not (gP p (ys.headD []))
theorem ZX {ys:List aC}{y:aC}(h:ys[0]?=some y):ys.headD []=y:=by
 cases ys with
 | nil=>cases h
 | cons a l=>simpa using h
theorem TU (k:Nat) (hS:aB Tryz.prog 20 (dL k)) (ys:List aC) (p:aC) (h:rY k ys [p]):ai Tryz.prog 55 [ay p,.addr (cZ ys)] [] (.bool (oK ys p)) []:=by
 refine Ij.bf (T:=aR Tryz.prog [(20,dL k)]) 0 hD (aj (af hS ah)) aZ (by decide) fun Q hQ=>?_
 obtain ⟨y,hy,hyo,hyk,hp⟩:=h
 obtain ⟨h1,h2⟩:=hp p (List.mem_cons_self ..)
 have hlt:0<ys.length:=(List.getElem?_eq_some_iff.1 hy).1
 have hr:oK ys p=Bool.not (gP p y):=by rw [oK,ZX hy]
 (conv=>arg 4;cbv);simp(maxSteps:=400000)only[↓av,ax,BEq.rfl,reduceIte,reduceCtorEq,Nat.reduceLT,reduceAdd,reduceSub,reduceMul,Nat.reduceBEq,reduceLeDiff,reduceToNat,reduceLE,hQ,hy,↓dL,hr]
 exact ⟨h1,hyo,hyk,h2⟩
theorem DN {S:aC→aC→Bool}:∀ {xs ys:List aC},xs.length≠ys.length→fu S xs ys=false
 | [],[],h=>absurd rfl h
 | [],_::_,_=>rfl
 | _::_,[],_=>rfl
 | x::xs,y::ys,h=>by rw [fu,DN (by simpa using h),Bool.and_false]
def xu (k:Nat) (ys:List aC):dD:=fun args objs K=>match args with
 | [a,b]=>fE ay a (HK.mk:HK fun p=>b=.addr (cZ ys)∧rY k ys [p]∧K (.bool (oK ys p)) objs 0)
 | _=>False
theorem QK (k:Nat) (hS:aB Tryz.prog 20 (dL k)) (ys:List aC):aB Tryz.prog 55 (xu k ys):=by
 intro args objs K h
 unfold xu at h
 split at h
 · obtain ⟨p,rfl,rfl,h1,hk⟩:=h
   exact ⟨_,_,_,.pure _ rfl (TU k hS ys p h1),hk⟩
 · exact h.elim
theorem QL (k:Nat) (hS:aB Tryz.prog 20 (dL k)) (ys l:List aC) (hl:l.length≤100000) (ho:rY k ys l) :
  ai Tryz.prog 83 [cZ l,.fn 55 [] [.addr (cZ ys)]] [] (.int .i64 (idxOf (oK ys) l)) []:=by
 refine j3.bf (T:=aR Tryz.prog [(55,xu k ys)]) 0 hD (aj (af (QK k hS ys) ah)) aZ (by decide) fun Q hQ=>?_
 (conv=>arg 4;cbv);simp(maxSteps:=400000)only[↓av,ax,BEq.rfl,reduceIte,reduceCtorEq,Nat.reduceLT,reduceAdd,reduceSub,reduceMul,Nat.reduceBEq,reduceLeDiff,reduceToNat,reduceLE,hQ]
 refine aH (fun m S=>∃ i:Nat,i+m=l.length∧(∀ (j:Nat) y,j<i→l[j]?=some y→oK ys y=false)∧S=⟨dH 19 [(0,cZ l),(1,.fn 55 [] [.addr (cZ ys)]),(7,.int .i64 l.length),(8,.int .i64 i)],[]⟩) l.length ⟨0,by omega,fun j y h=>absurd h (Nat.not_lt_zero j),?_⟩ ?_
 · simp only [bV,keepR,reduceAdd,ng,Nat.reduceBEq,List.map_nil]
   rfl
 rintro m S ⟨i,him,hb,rfl⟩
 rcases lt_or_ge i l.length with h | h
 rotate_left 1
 · have hlt:((i:Int)<(l.length:Int))=False:=eq_false (by omega)
   have hr:=uQ (l:=l) fun j y hj=>hb j y (by have:=(List.getElem?_eq_some_iff.1 hj).1;omega) hj
   simp(maxSteps:=400000)only[↓av,ax,BEq.rfl,reduceIte,reduceCtorEq,Nat.reduceLT,reduceAdd,reduceSub,reduceMul,Nat.reduceBEq,reduceLeDiff,reduceToNat,reduceLE,hQ,hlt,hr]
 have hlt:((i:Int)<(l.length:Int))=True:=eq_true (by omega)
 have zi:(0≤(i:Int))=True:=eq_true (by omega)
 have hgi:=List.getElem?_eq_getElem h
 have hao:rY k ys [l[i]]:=by
  obtain ⟨y,h1,h2,h3,h4⟩:=ho
  exact ⟨y,h1,h2,h3,fun p hp=>by rw [List.mem_singleton.1 hp];exact h4 _ (List.getElem_mem h)⟩
 generalize l[i]=o at hgi hao
 cases hp:oK ys o
 rotate_left 1
 · have hr:idxOf (oK ys) l=i:=idxOf_hit hgi hp hb
   simp(maxSteps:=400000)only[↓av,ax,BEq.rfl,reduceIte,reduceCtorEq,Nat.reduceLT,reduceAdd,reduceSub,reduceMul,Nat.reduceBEq,reduceLeDiff,reduceToNat,reduceLE,hQ,hlt,zi,hgi,↓xu,hp,hr]
   exact hao
 · simp(maxSteps:=400000)only[↓av,ax,BEq.rfl,reduceIte,reduceCtorEq,Nat.reduceLT,reduceAdd,reduceSub,reduceMul,Nat.reduceBEq,reduceLeDiff,reduceToNat,reduceLE,hQ,hlt,zi,hgi,↓xu,hp]
   refine ⟨hao,⟨by omega,by omega⟩,m-1,by omega,i+1,by omega,fun j y hj hy=>?_,rfl⟩
   rcases lt_or_ge j i with g | g
   · exact hb j y g hy
   · have:j=i:=by omega
     subst this
     rw [hgi] at hy;cases hy
     exact hp
def yt (k:Nat) (ys:List aC):dD:=fun args objs K=>match args with
 | [a,b]=>fE cZ a (HK.mk:HK fun l=>b=.fn 55 [] [.addr (cZ ys)]∧l.length≤100000∧rY k ys l∧K (.int .i64 (idxOf (oK ys) l)) objs 0)
 | _=>False
theorem Nq (k:Nat) (hS:aB Tryz.prog 20 (dL k)) (ys:List aC):aB Tryz.prog 83 (yt k ys):=by
 intro args objs K h
 unfold yt at h
 split at h
 · obtain ⟨l,rfl,rfl,h1,h2,hk⟩:=h
   exact ⟨_,_,_,.pure _ rfl (QL k hS ys l h1 h2),hk⟩
 · exact h.elim
theorem QM (k:Nat) (hS:aB Tryz.prog 20 (dL k)) (ys l:List aC) (hl:l.length≤100000) (ho:rY k ys l) :
  ai Tryz.prog 54 [cZ l,.fn 55 [] [.addr (cZ ys)]] [] (.bool (l.any (oK ys))) []:=by
 refine jI.bf (T:=aR Tryz.prog [(83,yt k ys)]) 0 hD (aj (af (Nq k hS ys) ah)) aZ (by decide) fun Q hQ=>?_
 (conv=>arg 4;cbv);simp(maxSteps:=400000)only[↓av,ax,BEq.rfl,reduceIte,reduceCtorEq,Nat.reduceLT,reduceAdd,reduceSub,reduceMul,Nat.reduceBEq,reduceLeDiff,reduceToNat,reduceLE,hQ,↓yt,xZ]
 exact ⟨hl,ho⟩
def yu (k:Nat) (ys:List aC):dD:=fun args objs K=>match args with
 | [a,b]=>fE cZ a (HK.mk:HK fun l=>b=.fn 55 [] [.addr (cZ ys)]∧l.length≤100000∧rY k ys l∧K (.bool (l.any (oK ys))) objs 0)
 | _=>False
theorem Nr (k:Nat) (hS:aB Tryz.prog 20 (dL k)) (ys:List aC):aB Tryz.prog 54 (yu k ys):=by
 intro args objs K h
 unfold yu at h
 split at h
 · obtain ⟨l,rfl,rfl,h1,h2,hk⟩:=h
   exact ⟨_,_,_,.pure _ rfl (QM k hS ys l h1 h2),hk⟩
 · exact h.elim
theorem Xq (k:Nat) (hS:aB Tryz.prog 20 (dL k)) (xs ys:List aC) (hl:xs.length≤100000) (ho:rY k ys xs) :
  ai Tryz.prog 53 [.addr (cZ xs),.addr (cZ ys)] [] (.bool (!xs.any (oK ys))) []:=by
 refine Nj.bf (T:=aR Tryz.prog [(54,yu k ys)]) 0 hD (aj (af (Nr k hS ys) ah)) aZ (by decide) fun Q hQ=>?_
 (conv=>arg 4;cbv);simp(maxSteps:=400000)only[↓av,ax,BEq.rfl,reduceIte,reduceCtorEq,Nat.reduceLT,reduceAdd,reduceSub,reduceMul,Nat.reduceBEq,reduceLeDiff,reduceToNat,reduceLE,hQ,↓yu]
 exact ⟨hl,ho⟩
theorem DR {S:aC→aC→Bool}:∀ {a b:List aC}{c d:List aC},a.length=b.length→fu S (a++c) (b++d)=(fu S a b && fu S c d)
 | [],[],_,_,_=>by simp [fu]
 | [],_::_,_,_,h=>by simp at h
 | _::_,[],_,_,h=>by simp at h
 | x::a,y::b,_,_,h=>by
  simp only [List.cons_append,fu,DR (show a.length=b.length by simpa using h),Bool.and_assoc]
theorem TV {S:aC→aC→Bool}{xs ys:List aC}{i:Nat}{x y:aC}(hx:xs[i]?=some x) (hy:ys[i]?=some y) (h:fu S (xs.take i) (ys.take i)=true):fu S (xs.take (i+1)) (ys.take (i+1))=S x y:=by
 have h1:=(List.getElem?_eq_some_iff.1 hx).1
 have h2:=(List.getElem?_eq_some_iff.1 hy).1
 rw [List.take_add_one,List.take_add_one,hx,hy,DR (by simp;omega),h]
 simp [fu]
theorem Xr {S:aC→aC→Bool}{xs ys:List aC}{i:Nat}(h:fu S (xs.take i) (ys.take i)=false):fu S xs ys=false:=by
 by_cases hl:xs.length=ys.length
 · rw [← List.take_append_drop i xs,← List.take_append_drop i ys,DR (by simp;omega),h,Bool.false_and]
 · exact DN hl
theorem TW (k:Nat) (hS:aB Tryz.prog 20 (dL k)) (xs ys:List aC) (hl:xs.length≤100000) (hl':ys.length≤100000) (ho:∀ x ∈ xs,∀ y ∈ ys,eF x∧eF y∧y.length<k∧x.length+2*y.length≤50000) :
  ai Tryz.prog 61 [cZ xs,cZ ys,.fn 20 [] []] [] (.bool (fu gP xs ys)) []:=by
 refine fD.bf (T:=aR Tryz.prog [(20,dL k)]) 0 hD (aj (af hS ah)) aZ (by decide) fun Q hQ=>?_
 by_cases hn:xs.length=ys.length
 rotate_left 1
 · have hn':((xs.length:Int)=(ys.length:Int))=False:=eq_false (by omega)
   have hr:fu gP xs ys=false:=DN hn
   (conv=>arg 4;cbv);simp(maxSteps:=400000)only[↓av,ax,BEq.rfl,reduceIte,reduceCtorEq,Nat.reduceLT,reduceAdd,reduceSub,reduceMul,Nat.reduceBEq,reduceLeDiff,reduceToNat,reduceLE,hQ,hn',hr]
 have hn':((xs.length:Int)=(ys.length:Int))=True:=eq_true (by omega)
 (conv=>arg 4;cbv);simp(maxSteps:=400000)only[↓av,ax,BEq.rfl,reduceIte,reduceCtorEq,Nat.reduceLT,reduceAdd,reduceSub,reduceMul,Nat.reduceBEq,reduceLeDiff,reduceToNat,reduceLE,hQ,hn']
 refine aH (fun m S=>∃ i:Nat,i+m=xs.length∧fu gP (xs.take i) (ys.take i)=true∧S=⟨dH 32 [(1,cZ ys),(2,.fn 20 [] []),(15,cZ xs),(16,.int .i64 xs.length),(17,.int .i64 i)],[]⟩) xs.length ⟨0,by omega,rfl,?_⟩ ?_
 · simp only [bV,keepR,reduceAdd,ng,Nat.reduceBEq,List.map_nil]
   rfl
 rintro m S ⟨i,him,hb,rfl⟩
 rcases lt_or_ge i xs.length with h | h
 rotate_left 1
 · have hlt:((i:Int)<(xs.length:Int))=False:=eq_false (by omega)
   have hr:fu gP xs ys=true:=by
    rw [List.take_of_length_le h,List.take_of_length_le (by omega)] at hb
    exact hb
   simp(maxSteps:=400000)only[↓av,ax,BEq.rfl,reduceIte,reduceCtorEq,Nat.reduceLT,reduceAdd,reduceSub,reduceMul,Nat.reduceBEq,reduceLeDiff,reduceToNat,reduceLE,hQ,hlt,hr]
 have hlt:((i:Int)<(xs.length:Int))=True:=eq_true (by omega)
 have zi:(0≤(i:Int))=True:=eq_true (by omega)
 have hlt2:((i:Int)<(ys.length:Int))=True:=eq_true (by omega)
 have hgi:=List.getElem?_eq_getElem h
 have hgy:ys[i]?=some (ys[i]'(by omega)):=List.getElem?_eq_getElem (by omega)
 have hoo:=ho _ (List.getElem_mem h) _ (List.getElem_mem (show i<ys.length by omega))
 generalize xs[i]=x at hgi hoo
 generalize ys[i]'(by omega)=y at hgy hoo
 have hsn:=TV (S:=gP) hgi hgy hb
 cases hp:gP x y with
 | false=>
  have hr:fu gP xs ys=false:=Xr (i:=i+1) (by rw [hsn,hp])
  simp(maxSteps:=400000)only[↓av,ax,BEq.rfl,reduceIte,reduceCtorEq,Nat.reduceLT,reduceAdd,reduceSub,reduceMul,Nat.reduceBEq,reduceLeDiff,reduceToNat,reduceLE,hQ,hlt,hlt2,zi,hgi,hgy,↓dL,hp,hr]
  exact hoo
 | true=>
  simp(maxSteps:=400000)only[↓av,ax,BEq.rfl,reduceIte,reduceCtorEq,Nat.reduceLT,reduceAdd,reduceSub,reduceMul,Nat.reduceBEq,reduceLeDiff,reduceToNat,reduceLE,hQ,hlt,hlt2,zi,hgi,hgy,↓dL,hp]
  exact ⟨hoo.1,hoo.2.1,hoo.2.2.1,hoo.2.2.2,⟨by omega,by omega⟩,m-1,by omega,i+1,by omega,by rw [hsn,hp],rfl⟩
def Cz (k:Nat):dD:=fun args objs K=>match args with
 | [a,b,c]=>fE cZ a (HK.mk:HK fun xs=>fE cZ b (HK.mk:HK fun ys=>c=.fn 20 [] []∧xs.length≤100000∧ys.length≤100000∧(∀ x ∈ xs,∀ y ∈ ys,eF x∧eF y∧y.length<k∧x.length+2*y.length≤50000)∧K (.bool (fu gP xs ys)) objs 0))
 | _=>False
theorem QN (k:Nat) (hS:aB Tryz.prog 20 (dL k)):aB Tryz.prog 61 (Cz k):=by
 intro args objs K h
 unfold Cz at h
 split at h
 · obtain ⟨xs,rfl,ys,rfl,rfl,h1,h2,h3,hk⟩:=h
   exact ⟨_,_,_,.pure _ rfl (TW k hS xs ys h1 h2 h3),hk⟩
 · exact h.elim
def vE (k:Nat) (xs ys:List aC):dD:=fun args objs K=>match args with
 | [a,b]=>a=.addr (cZ xs)∧b=.addr (cZ ys)∧xs.length≤100000∧rY k ys xs∧K (.bool (Bool.not (xs.any (oK ys)))) objs 0
 | _=>False
theorem TY (k:Nat) (hS:aB Tryz.prog 20 (dL k)) (xs ys:List aC):aB Tryz.prog 53 (vE k xs ys):=by
 intro args objs K h
 unfold vE at h
 split at h
 · obtain ⟨rfl,rfl,h1,h2,hk⟩:=h
   exact ⟨_,_,_,.pure _ rfl (Xq k hS xs ys h1 h2),hk⟩
 · exact h.elim
def Ns (k:Nat):dD:=fun args objs K=>match args with
 | [a,b]=>fE ay a (HK.mk:HK fun t=>fE ay b (HK.mk:HK fun u=>eF t∧eF u∧u.length≤k∧t.length+2*u.length≤50000∧Y.kindOf t=2∧Y.kindOf u=2∧K (.bool (xk gP t u)) objs 0))
 | _=>False
theorem Xt (k:Nat) (hS:aB Tryz.prog 20 (dL k)):aB Tryz.prog 58 (Ns k):=by
 intro args objs K h
 unfold Ns at h
 split at h
 · obtain ⟨t,rfl,u,rfl,h1,h2,h3,h4,h5,h6,hk⟩:=h
   exact ⟨_,_,_,.pure _ rfl (JK k hS t u h1 h2 h3 h4 h5 h6),hk⟩
 · exact h.elim
theorem all_in (t u:aC):Bool.not ((aF t).any (oK (aF u)))=Na gP t u:=by
 unfold Na oK y0
 rw [List.all_eq_not_any_not]
end Lp
namespace Lp
open Go Go.Proofs
open Nat (reduceAdd reduceLeDiff reduceMul reduceSub zero_le)
open Int (reduceLE reduceToNat)
theorem eF.aeE {t:aC}(h:eF t) (hk:Y.kindOf t=1):yP t (bW t):=Nh h.rt hk (by have:=h.len;omega) h.cs
theorem Nt (T:Know) (pt:Bool) (g:FuncId) (c d:PV) (objs:List Obj) (K:KT):nA T pt (.fn g [] [c,d]) [] objs K=T.fn g [c,d] objs K:=rfl
theorem ixK (a b:Int) (objs:List Obj) (K:KT) :
  (a_ D 55 (.addr (rX a b)) (.int .i64 0) objs K=K (.addr (.int .i64 a)) objs 0)∧
  (a_ D 55 (.addr (rX a b)) (.int .i64 1) objs K=K (.addr (.int .i64 b)) objs 0):=by
 have h1:(D 3).kind≠.none:=by intro h;cases h
 exact ⟨propext ⟨fun h=>h.2.2.2.2.2.2,fun h=>⟨h1,by decide,by decide,Nat.le_of_ble_eq_true rfl,by decide,rfl,h⟩⟩,
  propext ⟨fun h=>h.2.2.2.2.2.2,fun h=>⟨h1,by decide,by decide,Nat.le_of_ble_eq_true rfl,by decide,rfl,h⟩⟩⟩
theorem eF.aeF {t:aC}(h:eF t) (hk:Y.kindOf t=8):eF (iZ ⟨5,0,[],[],0,aN⟩ (aF t))∧(iZ ⟨5,0,[],[],0,aN⟩ (aF t)).length≤t.length∧(aF t).flatten.length≤1000000∧∀ p ∈ aF t,p≠[]:=by
 obtain ⟨p,hp⟩:=h.rt.xq (by omega)
 have hpo:=h.part (p:=p) (by rw [hp];simp)
 have hl:=h.len
 rw [hp]
 refine ⟨⟨Ua (.inr (.inr (.inl rfl))) (fun _=>rfl) rfl rfl rfl rfl fun q hq=>?_,?_,fun m hm=>?_⟩,?_,?_,fun q hq=>?_⟩
 · rw [List.mem_singleton.1 hq];exact hpo.1.rt
 · simp [iZ];omega
 · rcases List.mem_cons.1 hm with rfl | hm
   · exact zero_le _
   · exact hpo.1.cs m (by simpa using hm)
 · simp [iZ];omega
 · simp;omega
 · rw [List.mem_singleton.1 hq];exact hpo.1.rt.one.ne
theorem Xu (nm:List UInt8) (v:aC) (k:Nat):Y.skip (Co nm v) k=Y.skip v k:=by
 cases v with
 | nil=>rfl
 | cons n r=>cases k <;> rfl
theorem QO (nm:List UInt8) (v:aC):(Co nm v).length=v.length:=by cases v <;> rfl
theorem Xv {Q:dS→List aC→Bool}(nm:List UInt8) (hQ:∀ n ps,Q { n with name:=nm } ps=Q n ps){v:aC}(h:Y.Good Q v):Y.Good Q (Co nm v):=by
 cases v with
 | nil=>exact h
 | cons n r=>
  intro i m s hd
  cases i with
  | zero=>
   simp only [Co,List.drop_zero,List.cons.injEq] at hd
   obtain ⟨rfl,rfl⟩:=hd
   obtain ⟨ps,h1,h2⟩:=h 0 n r rfl
   exact ⟨ps,h1,by rw [hQ];exact h2⟩
  | succ i=>exact h (i+1) m s hd
theorem eF.ent {x:aC}(h:eF x) (hl:x.length+2≤50000):eF (EX x)∧(EX x).length=x.length+2:=by
 have he:EX x=(⟨2,2,[],[],0,aN⟩:dS)::[[⟨1,0,Ih,[],16,aN⟩],Co oU x].flatten:=by simp [EX]
 have hlen:(EX x).length=x.length+2:=by simp [EX,QO]
 have hone:∀ p ∈ [[(⟨1,0,Ih,[],16,aN⟩:dS)],Co oU x],Y.One p:=by
  intro p hp
  rcases List.mem_cons.1 hp with rfl | hp
  · rfl
  · rw [List.mem_singleton.1 hp]
    show Y.skip _ 1=_
    rw [Xu,QO];exact h.rt.one
 have hgood:∀ p ∈ [[(⟨1,0,Ih,[],16,aN⟩:dS)],Co oU x],Y.Good (l9 bA eD) p:=by
  intro p hp
  rcases List.mem_cons.1 hp with rfl | hp
  · intro i m s hd
    cases i with
    | zero=>
     simp only [List.drop_zero,List.cons.injEq] at hd
     obtain ⟨rfl,rfl⟩:=hd
     exact ⟨[],rfl,rfl⟩
    | succ i=>simp at hd
  · rw [List.mem_singleton.1 hp]
    exact Xv oU (fun _ _=>rfl) h.rt.good
 have hk9:Y.kindOf x≠9:=h.rt.kind
 have hkx:Y.kindOf (Co oU x)=Y.kindOf x:=by cases x <;> rfl
 have hnx:Y.nameOf (Co oU x)=oU:=by
  cases x with
  | nil=>exact absurd rfl h.rt.one.ne
  | cons n r=>rfl
 have hrow:l9 bA eD ⟨2,2,[],[],0,aN⟩ [[⟨1,0,Ih,[],16,aN⟩],Co oU x]=true:=by
  have u1:utf Ih=true:=by decide
  have u2:utf oU=true:=by decide
  have r1:yQ [Ih,oU]=true:=by decide
  have e9:(Y.kindOf x==9)=false:=by simpa using hk9
  have n1:Y.nameOf [(⟨1,0,Ih,[],16,aN⟩:dS)]=Ih:=rfl
  have n2:Y.kindOf [(⟨1,0,Ih,[],16,aN⟩:dS)]=1:=rfl
  simp [l9,bR,vX,zw,Ap,hkx,hnx,e9,n1,n2,u1,u2,r1]
 obtain ⟨g1,g2⟩:=Xc (x:=⟨2,2,[],[],0,aN⟩) rfl hone hgood hrow
 refine ⟨⟨⟨by rw [he];exact g1,rfl,by show (2:Int)≠9;decide,by rw [he];exact g2⟩,by omega,fun m hm=>?_⟩,hlen⟩
 simp only [EX,List.mem_cons] at hm
 rcases hm with rfl | rfl | hm
 · exact zero_le _
 · exact zero_le _
 · cases x with
   | nil=>cases hm
   | cons y q=>
    rcases List.mem_cons.1 hm with rfl | hm
    · exact h.cs y (List.mem_cons_self ..)
    · exact h.cs m (List.mem_cons_of_mem _ hm)
theorem eF.eO {t:aC}(h:eF t):(aF t).length≤100000:=by
 obtain ⟨m,r,hmr⟩:∃ m r,t=m::r:=by
  cases t with
  | nil=>exact absurd rfl h.rt.one.ne
  | cons m r=>exact ⟨m,r,rfl⟩
 subst hmr
 have:=(DU h.rt).2
 have hl:=h.len
 simp only [List.length_cons] at hl
 omega
theorem QR (k:Nat) (hS:aB Tryz.prog 20 (dL k)) (t u:aC) (ht:eF t) (hu:eF u) (hk:u.length≤k) (hl:t.length+2*u.length≤50000):ai Tryz.prog 20 [ay t,ay u] [] (.bool (gP t u)) []:=by
 obtain ⟨n,hn,hkn,hkm,hks⟩:∃ n,t[0]?=some n∧Y.kindOf t=n.kind∧gU t=n.n∧Ay t=n.s:=by
  cases t with
  | nil=>exact absurd rfl ht.rt.one.ne
  | cons n r=>exact ⟨n,rfl,rfl,rfl,rfl⟩
 obtain ⟨n',hn',hkn',ad4,hks'⟩:∃ n,u[0]?=some n∧Y.kindOf u=n.kind∧gU u=n.n∧Ay u=n.s:=by
  cases u with
  | nil=>exact absurd rfl hu.rt.one.ne
  | cons n r=>exact ⟨n,rfl,rfl,rfl,rfl⟩
 refine Ia.bf (T:=aR Tryz.prog [(52,kF),(57,pY),(56,f_ n.kind n'.kind),(53,vE k (aF t) (aF u)),(58,Ns k),(61,Cz k),(60,Cw),(59,tZ),(20,dL k)]) 1 hD
  (aj (af rV (af Cr (af (Ii _ _) (af (TY k hS _ _) (af (Xt k hS) (af (QN k hS) (af QG (af EB (af hS ah)))))))))) aZ (by decide) fun Q hQ=>?_
 have htl:=ht.len
 have hul:=hu.len
 have cF:∀ a b,¬ (n.kind=a∧n'.kind=b)→(decide (n.kind=a) && decide (n'.kind=b))=false:=fun a b h=>by
  rw [Bool.and_eq_false_iff,decide_eq_false_iff_not,decide_eq_false_iff_not]
  by_cases h1:n.kind=a
  · exact .inr fun h2=>h ⟨h1,h2⟩
  · exact .inl h1
 have cT:∀ a b,n.kind=a∧n'.kind=b→(decide (n.kind=a) && decide (n'.kind=b))=true:=fun a b h=>by simp [h.1,h.2]
 have hsub:=Cq t hu.rt
 unfold mY at hsub
 rw [hkn,hkn',hkm,ad4,hks,hks'] at hsub
 (conv=>arg 4;cbv);simp(maxSteps:=400000)only[↓av,ax,BEq.rfl,reduceIte,reduceCtorEq,Nat.reduceLT,reduceAdd,reduceSub,reduceMul,Nat.reduceBEq,reduceLeDiff,reduceToNat,reduceLE,hQ,↓kF,pS]
 refine ⟨ht.rt.one,by omega,hu.rt.one,by omega,?_⟩
 refine aO _ (Weak.freeze 1 0 (zero_le _) _) ?_
 simp(maxSteps:=400000)only[↓av,ax,BEq.rfl,reduceIte,reduceCtorEq,Nat.reduceLT,reduceAdd,reduceSub,reduceMul,Nat.reduceBEq,reduceLeDiff,reduceToNat,reduceLE,hQ,hn,hn',↓ZO,jS,jT,zK,pK,kC]
 refine ⟨by decide,?_⟩
 refine aO _ (Weak.freeze 1 0 (zero_le _) _) ?_
 by_cases k11:n.kind=1∧n'.kind=1
 · rw [if_pos k11] at hsub
   simp(maxSteps:=400000)only[↓av,ax,BEq.rfl,reduceIte,reduceCtorEq,Nat.reduceLT,reduceAdd,reduceSub,reduceMul,Nat.reduceBEq,reduceLeDiff,reduceToNat,reduceLE,hQ,o6,jS,jT,↓f_,cT 1 1 k11,↓pY,hsub]
   exact ⟨ht.rt.one,hu.rt.one,by omega,by omega,ht.aeE (by omega),hu.aeE (by omega)⟩
 rw [if_neg k11] at hsub
 have c11:=cF 1 1 k11
 by_cases k22:n.kind=2∧n'.kind=2
 · rw [if_pos k22] at hsub
   simp(maxSteps:=400000)only[↓av,ax,BEq.rfl,reduceIte,reduceCtorEq,Nat.reduceLT,reduceAdd,reduceSub,reduceMul,Nat.reduceBEq,reduceLeDiff,reduceToNat,reduceLE,hQ,o6,jS,jT,↓f_,c11,cT 2 2 k22,↓Ns,hsub]
   exact ⟨ht,hu,hk,hl,by omega,by omega⟩
 rw [if_neg k22] at hsub
 have Xw:=cF 2 2 k22
 by_cases k32:n.kind=3∧n'.kind=2
 · rw [if_pos k32] at hsub
   by_cases h1:n'.n=1
   · have h1':=eq_true h1
     have hr:gP t u=decide (((aF u).length:Int)=0):=by rw [hsub,h1];simp
     simp(maxSteps:=400000)only[↓av,ax,BEq.rfl,reduceIte,reduceCtorEq,Nat.reduceLT,reduceAdd,reduceSub,reduceMul,Nat.reduceBEq,reduceLeDiff,reduceToNat,reduceLE,hQ,o6,jS,jT,↓f_,c11,Xw,cT 3 2 k32,hn',h1',hr]
   · have h1':=eq_false h1
     have hr:gP t u=false:=by rw [hsub];simp [h1]
     simp(maxSteps:=400000)only[↓av,ax,BEq.rfl,reduceIte,reduceCtorEq,Nat.reduceLT,reduceAdd,reduceSub,reduceMul,Nat.reduceBEq,reduceLeDiff,reduceToNat,reduceLE,hQ,o6,jS,jT,↓f_,c11,Xw,cT 3 2 k32,hn',h1',hr]
 rw [if_neg k32] at hsub
 have c32:=cF 3 2 k32
 have hone:n'.kind=3∨n'.kind=5→∃ y,aF u=[y]:=fun h=>hu.rt.xq (by omega)
 have hlist:n'.kind=3∨n'.kind=5→rY k (aF u) (aF t):=fun h=>by
  obtain ⟨y,hy⟩:=hone h
  have hyo:=hu.part (p:=y) (by rw [hy];simp)
  refine ⟨y,by rw [hy];rfl,hyo.1,by omega,fun p hp=>?_⟩
  have:=ht.part hp
  exact ⟨this.1,by omega⟩
 have hpl:(aF t).length≤100000:=ht.eO
 have hpl':(aF u).length≤100000:=hu.eO
 by_cases k23:n.kind=2∧n'.kind=3
 · rw [if_pos k23] at hsub
   by_cases h1:n.n=0
   · have h1':=eq_true h1
     have hr:gP t u=Bool.not ((aF t).any (oK (aF u))):=by rw [hsub,all_in];simp [h1]
     simp(maxSteps:=400000)only[↓av,ax,BEq.rfl,reduceIte,reduceCtorEq,Nat.reduceLT,reduceAdd,reduceSub,reduceMul,Nat.reduceBEq,reduceLeDiff,reduceToNat,reduceLE,hQ,o6,jS,jT,↓f_,c11,Xw,c32,cT 2 3 k23,hn,h1',↓Nt,↓vE,hr]
     exact ⟨hpl,hlist (.inl k23.2)⟩
   · have h1':=eq_false h1
     have hr:gP t u=false:=by rw [hsub];simp [h1]
     simp(maxSteps:=400000)only[↓av,ax,BEq.rfl,reduceIte,reduceCtorEq,Nat.reduceLT,reduceAdd,reduceSub,reduceMul,Nat.reduceBEq,reduceLeDiff,reduceToNat,reduceLE,hQ,o6,jS,jT,↓f_,c11,Xw,c32,cT 2 3 k23,hn,h1',hr]
 rw [if_neg k23] at hsub
 have c23:=cF 2 3 k23
 by_cases k45:(n.kind=4∨n.kind=7∨n.kind=5)∧n'.kind=5
 · rw [if_pos k45] at hsub
   have hr:gP t u=Bool.not ((aF t).any (oK (aF u))):=by rw [hsub,all_in]
   by_cases h4:n.kind=4
   · simp(maxSteps:=400000)only[↓av,ax,BEq.rfl,reduceIte,reduceCtorEq,Nat.reduceLT,reduceAdd,reduceSub,reduceMul,Nat.reduceBEq,reduceLeDiff,reduceToNat,reduceLE,hQ,o6,jS,jT,↓f_,c11,Xw,c32,c23,cT 4 5 ⟨h4,k45.2⟩,↓Nt,↓vE,hr]
     exact ⟨hpl,hlist (.inr k45.2)⟩
   · have c45:=cF 4 5 (by omega)
     by_cases h7:n.kind=7
     · simp(maxSteps:=400000)only[↓av,ax,BEq.rfl,reduceIte,reduceCtorEq,Nat.reduceLT,reduceAdd,reduceSub,reduceMul,Nat.reduceBEq,reduceLeDiff,reduceToNat,reduceLE,hQ,o6,jS,jT,↓f_,c11,Xw,c32,c23,c45,cT 7 5 ⟨h7,k45.2⟩,↓Nt,↓vE,hr]
       exact ⟨hpl,hlist (.inr k45.2)⟩
     · have c75:=cF 7 5 (by omega)
       simp(maxSteps:=400000)only[↓av,ax,BEq.rfl,reduceIte,reduceCtorEq,Nat.reduceLT,reduceAdd,reduceSub,reduceMul,Nat.reduceBEq,reduceLeDiff,reduceToNat,reduceLE,hQ,o6,jS,jT,↓f_,c11,Xw,c32,c23,c45,c75,cT 5 5 ⟨by omega,k45.2⟩,↓Nt,↓vE,hr]
       exact ⟨hpl,hlist (.inr k45.2)⟩
 rw [if_neg k45] at hsub
 have c45:=cF 4 5 (by omega)
 have c75:=cF 7 5 (by omega)
 have c55:=cF 5 5 (by omega)
 by_cases k85:n.kind=8∧n'.kind=5
 · rw [if_pos k85] at hsub
   obtain ⟨y,hy⟩:=hone (.inr k85.2)
   have hgy:(aF u)[0]?=some y:=by rw [hy];rfl
   have hy0:y0 u=y:=by rw [y0,hy];rfl
   rw [hy0] at hsub
   have hyl:(0<((aF u).length:Int))=True:=eq_true (by rw [hy];simp)
   simp(maxSteps:=400000)only[↓av,ax,BEq.rfl,reduceIte,reduceCtorEq,Nat.reduceLT,reduceAdd,reduceSub,reduceMul,Nat.reduceBEq,reduceLeDiff,reduceToNat,reduceLE,hQ,o6,jS,jT,↓f_,c11,Xw,c32,c23,c45,c75,c55,cT 8 5 k85,qH,gH,gM,rT,↓tZ,ZQ,ZR,hgy,hyl,↓dL,hsub]
   obtain ⟨m1,m2,m3,m4⟩:=ht.aeF (by omega)
   have hyo:=hu.part (p:=y) (by rw [hy];simp)
   exact ⟨hpl,m3,m4,m1,hyo.1,by omega,by omega⟩
 rw [if_neg k85] at hsub
 have c85:=cF 8 5 k85
 by_cases k65:n.kind=6∧n'.kind=5
 · rw [if_pos k65] at hsub
   obtain ⟨y,hy⟩:=hone (.inr k65.2)
   have hgy:(aF u)[0]?=some y:=by rw [hy];rfl
   have hy0:y0 u=y:=by rw [y0,hy];rfl
   obtain ⟨x,hx⟩:=ht.rt.xq (by omega)
   have hgx:(aF t)[0]?=some x:=by rw [hx];rfl
   have hx0:y0 t=x:=by rw [y0,hx];rfl
   rw [hy0,hx0] at hsub
   have hyl:(0<((aF u).length:Int))=True:=eq_true (by rw [hy];simp)
   have hxl:(0<((aF t).length:Int))=True:=eq_true (by rw [hx];simp)
   simp(maxSteps:=400000)only[↓av,ax,BEq.rfl,reduceIte,reduceCtorEq,Nat.reduceLT,reduceAdd,reduceSub,reduceMul,Nat.reduceBEq,reduceLeDiff,reduceToNat,reduceLE,hQ,o6,jS,jT,↓f_,c11,Xw,c32,c23,c45,c75,c55,c85,cT 6 5 k65,↓Cw,hgx,hxl,hgy,hyl,↓dL,hsub]
   have hyo:=hu.part (p:=y) (by rw [hy];simp)
   have hxo:=ht.part (p:=x) (by rw [hx];simp)
   obtain ⟨m1,m2⟩:=hxo.1.ent (by omega)
   exact ⟨by omega,hxo.1.rt.one.ne,m1,hyo.1,by omega,by omega⟩
 rw [if_neg k65] at hsub
 have c65:=cF 6 5 k65
 by_cases h0:n'.kind=0
 · rw [if_pos h0] at hsub
   have h0':=eq_true h0
   simp(maxSteps:=400000)only[↓av,ax,BEq.rfl,reduceIte,reduceCtorEq,Nat.reduceLT,reduceAdd,reduceSub,reduceMul,Nat.reduceBEq,reduceLeDiff,reduceToNat,reduceLE,hQ,o6,jS,jT,↓f_,c11,Xw,c32,c23,c45,c75,c55,c85,c65,hn',h0',hsub]
 rw [if_neg h0] at hsub
 have h0':=eq_false h0
 by_cases he:n.kind=n'.kind
 · have he':=eq_true he
   by_cases hs:n.s=n'.s
   · have hs':=eq_true hs
     have hr:gP t u=fu gP (aF t) (aF u):=by rw [hsub];simp [he,hs]
     simp(maxSteps:=400000)only[↓av,ax,BEq.rfl,reduceIte,reduceCtorEq,Nat.reduceLT,reduceAdd,reduceSub,reduceMul,Nat.reduceBEq,reduceLeDiff,reduceToNat,reduceLE,hQ,o6,jS,jT,↓f_,c11,Xw,c32,c23,c45,c75,c55,c85,c65,hn,hn',h0',ixK,he',hs',↓Cz,hr]
     exact ⟨hpl,hpl',fun x hx y hy=>by
      have h1:=ht.part hx
      have h2:=hu.part hy
      exact ⟨h1.1,h2.1,by omega,by omega⟩⟩
   · have hs':=eq_false hs
     have hr:gP t u=false:=by rw [hsub];simp [hs]
     simp(maxSteps:=400000)only[↓av,ax,BEq.rfl,reduceIte,reduceCtorEq,Nat.reduceLT,reduceAdd,reduceSub,reduceMul,Nat.reduceBEq,reduceLeDiff,reduceToNat,reduceLE,hQ,o6,jS,jT,↓f_,c11,Xw,c32,c23,c45,c75,c55,c85,c65,hn,hn',h0',ixK,he',hs',hr]
 · have he':=eq_false he
   have hr:gP t u=false:=by rw [hsub];simp [he]
   simp(maxSteps:=400000)only[↓av,ax,BEq.rfl,reduceIte,reduceCtorEq,Nat.reduceLT,reduceAdd,reduceSub,reduceMul,Nat.reduceBEq,reduceLeDiff,reduceToNat,reduceLE,hQ,o6,jS,jT,↓f_,c11,Xw,c32,c23,c45,c75,c55,c85,c65,hn,hn',h0',ixK,he',hr]
theorem Il:∀ k:Nat,aB Tryz.prog 20 (dL k)
 | 0=>by
  intro args objs K h
  unfold dL at h
  split at h
  · obtain ⟨t,rfl,u,rfl,_,_,h3,_⟩:=h
    exact absurd h3 (Nat.not_lt_zero _)
  · exact h.elim
 | k+1=>by
  intro args objs K h
  unfold dL at h
  split at h
  · obtain ⟨t,rfl,u,rfl,h1,h2,h3,h4,hk⟩:=h
    exact ⟨_,_,_,.pure _ rfl (QR k (Il k) t u h1 h2 (by omega) h4),hk⟩
  · exact h.elim
def Im:dD:=fun args objs K=>match args with
 | [a0,a1]=>fE ay a0 (HK.mk:HK fun t=>fE ay a1 (HK.mk:HK fun u=>(eF t)∧(eF u)∧(t.length+2*u.length≤50000)∧K (.bool (gP t u)) objs 0))
 | _=>False
theorem Xx:aB Tryz.prog 20 (Im):=by
 intro args objs K h
 unfold Im at h
 split at h
 · rename_i a0 a1
   obtain ⟨t,rfl,u,rfl,h1,h2,h3,hk⟩:=h
   exact ⟨_,_,_,.pure _ rfl (QR u.length (Il _) t u h1 h2 (Nat.le_refl _) h3),hk⟩
 · exact h.elim
end Lp
namespace Lp
open Go Go.Proofs
open Nat (reduceAdd reduceLeDiff reduceMul reduceSub)
open Int (reduceLE reduceToNat)
def kY (k:Int):dS:=⟨k,0,[],[],0,aN⟩
theorem eF.UX {t:aC}(h:eF t) (hl:t.length+1≤50000){k:Int}(hk:k=3∨k=5∨k=6):eF (iZ (kY k) [t])∧(iZ (kY k) [t]).length=t.length+1∧aF (iZ (kY k) [t])=[t]∧Y.kindOf (iZ (kY k) [t])=k∧Ay (iZ (kY k) [t])=[]:=by
 have hp:∀ p ∈ [t],rZ bA eD p:=fun q hq=>by rw [List.mem_singleton.1 hq];exact h.rt
 have hlen:(iZ (kY k) [t]).length=t.length+1:=by simp [iZ]
 refine ⟨⟨Ua (t:=kY k) (by simp only [kY];omega) (fun _=>rfl) rfl rfl rfl rfl hp,by omega,fun m hm=>?_⟩,hlen,QX (by simp only [kY];omega) hp,rfl,rfl⟩
 rcases List.mem_cons.1 hm with rfl | hm
 · exact Nat.zero_le _
 · exact h.cs m (by simpa using hm)
theorem ZY {t u:aC}(ht:eF t) (hu:eF u) (hl:t.length+1≤50000) (hl':u.length+1≤50000){k:Int}(hk:k=3∨k=5∨k=6):gP (iZ (kY k) [t]) (iZ (kY k) [u])=gP t u:=by
 obtain ⟨_,_,a3,a4,a5⟩:=ht.UX hl hk
 obtain ⟨b1,_,b3,b4,b5⟩:=hu.UX hl' hk
 rw [Cq _ b1.rt]
 unfold mY
 rw [a4,b4,a5,b5,a3,b3]
 have y:y0 (iZ (kY k) [u])=u:=by rw [y0,b3];rfl
 rcases hk with rfl | rfl | rfl
 · simp [fu]
 · simp [Na,a3,y]
 · simp [fu]
theorem abb (t:aC):gP t Vb=true:=by
 have h0:rZ bA eD Vb:=nQ KD
 rw [Cq _ h0]
 unfold mY
 have:Y.kindOf Vb=0:=rfl
 rw [this]
 simp
theorem abd {t:aC}(h:eF t):gP Vb t=decide (Y.kindOf t=0):=by
 rw [Cq _ h.rt]
 unfold mY
 have:Y.kindOf Vb=0:=rfl
 rw [this]
 by_cases h0:Y.kindOf t=0
 · simp [h0]
 · have:¬ (0=Y.kindOf t):=fun e=>h0 e.symm
   simp [h0,this]
theorem eF.few {t:aC}{k:Nat}(hk:k≤40) (h:H8 t k=true):eF t∧t.length≤40:=by
 obtain ⟨hw,hl⟩:=acY (k:=k) (by omega) h
 exact ⟨⟨hw.rt,by omega,hw.cs⟩,by omega⟩
theorem Io (t u:aC) (hr:Qi t) (hr':Qi u):ai Tryz.prog 5 [ay t,ay u] [] (.bool true) []:=by
 refine vC.bf (T:=aR Tryz.prog [(10,Al),(7,tQ),(20,Im),(21,yj)]) 0 hD (aj (af JG (af Qc (af Xx (af M9 ah))))) aZ (by decide) fun Q hQ=>?_
 have t40:Int.toNat 40=40:=rfl
 cases hf:H8 t 40 with
 | false=>
  (conv=>arg 4;cbv);simp(maxSteps:=400000)only[↓av,ax,BEq.rfl,reduceIte,reduceCtorEq,Nat.reduceLT,reduceAdd,reduceSub,reduceMul,Nat.reduceBEq,reduceLeDiff,reduceToNat,reduceLE,hQ,↓pF,↓tQ,t40,hf]
  exact ⟨hr.len,hr.txt,hr.cnm⟩
 | true=>
  obtain ⟨ht,hl⟩:=eF.few (by decide) hf
  cases hf':H8 u 40 with
  | false=>
   (conv=>arg 4;cbv);simp(maxSteps:=400000)only[↓av,ax,BEq.rfl,reduceIte,reduceCtorEq,Nat.reduceLT,reduceAdd,reduceSub,reduceMul,Nat.reduceBEq,reduceLeDiff,reduceToNat,reduceLE,hQ,↓pF,↓tQ,t40,hf,hf']
   exact ⟨hr.len,hr.txt,hr.cnm,hr'.len,hr'.txt,hr'.cnm⟩
  | true=>
   obtain ⟨hu,hl'⟩:=eF.few (by decide) hf'
   have e0:([⟨0,0,[],[],0,aN⟩]:aC)=Vb:=rfl
   (conv=>arg 4;cbv);simp(maxSteps:=400000)only[↓av,ax,BEq.rfl,reduceIte,reduceCtorEq,Nat.reduceLT,reduceAdd,reduceSub,reduceMul,Nat.reduceBEq,reduceLeDiff,reduceToNat,reduceLE,hQ,↓pF,↓tQ,t40,hf,hf',qH,gH,gM,rT,e0]
   refine ⟨hr.len,hr.txt,hr.cnm,hr'.len,hr'.txt,hr'.cnm,?_⟩
   refine aH (fun m S=>∃ i:Nat,i+m=3∧S=⟨dH 71 [(0,ay t),(1,ay u),(5,ay Vb),(6,encI [5,3,6]),(7,.int .i64 i)],[]⟩) 3 ⟨0,rfl,?_⟩ ?_
   · simp only [bV,keepR,reduceAdd,ng,Nat.reduceBEq,List.map_nil]
     rfl
   rintro m S ⟨i,him,rfl⟩
   rcases Nat.lt_or_ge i 3 with h | h
   · have hlt:((i:Int)<3)=True:=eq_true (by omega)
     have zi:(0≤(i:Int))=True:=eq_true (by omega)
     obtain ⟨k,hk,hki⟩:∃ k:Int,(k=3∨k=5∨k=6)∧([5,3,6]:List Int)[i]?=some k:=by
      have:i=0∨i=1∨i=2:=by omega
      rcases this with rfl | rfl | rfl
      · exact ⟨5,by simp,rfl⟩
      · exact ⟨3,by simp,rfl⟩
      · exact ⟨6,by simp,rfl⟩
     have hsm:=ZY ht hu (by omega) (by omega) hk
     obtain ⟨a1,a2,_⟩:=ht.UX (by omega) hk
     obtain ⟨b1,b2,_⟩:=hu.UX (by omega) hk
     have eK:(⟨k,0,[],[],0,aN⟩:dS)=kY k:=rfl
     simp(maxSteps:=400000)only[↓av,ax,BEq.rfl,reduceIte,reduceCtorEq,Nat.reduceLT,reduceAdd,reduceSub,reduceMul,Nat.reduceBEq,reduceLeDiff,reduceToNat,reduceLE,hQ,hlt,zi,hki,qH,gH,gM,rT,eK,↓yj,↓Im,hsm]
     exact ⟨by simp;omega,by simp;omega,a1,b1,by omega,ht,hu,by omega,⟨by omega,by omega⟩,m-1,by omega,i+1,by omega,rfl⟩
   · have hlt:((i:Int)<3)=False:=eq_false (by omega)
     obtain ⟨n,hn,hkn⟩:∃ n,t[0]?=some n∧Y.kindOf t=n.kind:=by
      cases t with
      | nil=>exact absurd rfl ht.rt.one.ne
      | cons n r=>exact ⟨n,rfl,rfl⟩
     have s1:=ht.rt.Cx
     have s2:=abb t
     have s3:=abd ht
     rw [hkn] at s3
     have h0:eF Vb:=⟨nQ KD,by decide,by decide⟩
     simp(maxSteps:=400000)only[↓av,ax,BEq.rfl,reduceIte,reduceCtorEq,Nat.reduceLT,reduceAdd,reduceSub,reduceMul,Nat.reduceBEq,reduceLeDiff,reduceToNat,reduceLE,hQ,hlt,↓pF,↓Im,s1,s2,s3,hn]
     have l0:List.length Vb=1:=rfl
     exact ⟨ht,ht,by omega,ht,h0,by omega,h0,ht,by omega⟩
end Lp
namespace Lp
open Go Go.Proofs
theorem Z0 (t u:aC) (hr:Qi t) (hr':Qi u):ai Tryz.prog 5 [ay t,ay u] [] (.bool true) []:=Io t u hr hr'
end Lp
namespace Lp
open Go
theorem g_ {a b:Bool}(ha:a=true) (hb:b=true):(a && b)=true:=by rw [ha,hb];rfl
theorem adr {P:Program}{f:FuncId}{fn:Func}{s:ChangeSpec}{c:OpenClaim}
  (h0:(c.wf (OpenSpec.ofChange s))=true)
  (h1:(laidOutB P)=true)
  (h2:(mapsRowed P)=true)
  (h3:(fn.params.all (P.readableRec ·))=true)
  (h4:(namedTie P c.named s.vars)=true)
  (h5:((c.stops==[]))=true)
  (h6:((P.stops==[]))=true)
  (h7:((c.knobs==[]))=true)
  (h8:((P.stopKnobs==[]))=true)
  (h9:((c.inPlace==P.inPlace f))=true)
  (h10:((c.unfollowed==P.unfollowed f))=true)
  (h11:((c.recurses==P.recurses f))=true)
  (h12:((c.named==P.varsNamed f))=true)
  (h13:((c.maps==(fn.params.toList++s.plain.varTypes P).any (P.mapsRec ·)))=true)
  (h14:((c.ifaces==(fn.params.toList++s.plain.varTypes P).any (P.ifacesRec ·)))=true)
  (h15:((c.mapsOut==P.mapsAmong fn.resultTypes.toList))=true)
  (h16:((c.loops==(fn.params.toList++s.plain.varTypes P).any (P.loopsFrom ·)))=true)
  (h17:((c.wideKeys==(fn.params.toList++s.plain.varTypes P++fn.resultTypes.toList).any (P.wideKeysFrom ·)))=true)
  (h18:(s.vars.all (P.varReadable ·))=true)
  (h19:(fn.resultTypes.all (fun t=>P.readableRec t && decide (t<P.types.size)))=true)
  (h20:((c.ifacesOut==fn.resultTypes.toList.any (P.ifacesRec ·)))=true)
  (h21:((c.loopsOut==fn.resultTypes.toList.any (P.loopsFrom ·)))=true)
  (h22:((c.plainKeys==P.plainKeys))=true)
  (h23:(c.shortTexts.isNone)=true)
  (h24:(P.stopsHeard)=true)
  (h25:(P.mayEnter)=true)
  (h26:((c.lifted==P.liftsFinal))=true)
  (h27:((P.make==some c.make))=true)
  (h28:((c.kinds==(if c.domain.isEmpty then [] else fn.params.toList.map fun t=>match P.underlying t with | some (.int k)=>some k | _=>none)))=true)
  (h29:((c.pinned==c.pinnedBy))=true)
  (h30:((c.veiled==(fn.params.toList++s.plain.varTypes P++fn.resultTypes.toList).any (P.veiledRec ·)))=true)
  (h31:(c.veiledFits P fn.params.toList (fn.params.toList++s.plain.varTypes P++fn.resultTypes.toList))=true):joinedFacts P f fn s c=true:=by
 unfold joinedFacts
 exact (g_ (g_ (g_ (g_ (g_ (g_ (g_ (g_ (g_ (g_ (g_ (g_ (g_ (g_ (g_ (g_ (g_ (g_ (g_ (g_ (g_ (g_ (g_ (g_ (g_ (g_ (g_ (g_ (g_ (g_ (g_ h0 h1) h2) h3) h4) h5) h6) h7) h8) h9) h10) h11) h12) h13) h14) h15) h16) h17) h18) h19) h20) h21) h22) h23) h24) h25) h26) h27) h28) h29) h30) h31)
end Lp
