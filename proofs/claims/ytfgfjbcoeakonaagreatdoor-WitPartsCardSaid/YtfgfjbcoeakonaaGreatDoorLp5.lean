/-
  Part 5 of what the statement rests on: LpTA4, LpW13, LpW5, LpW6, LpW7, LpH8, LpD3, LpH9, LpH20, LpH21, LpH24, LpHN1, LpHN2, LpHN3, LpD7, LpD8, LpE1, LpD5, LpV10, LpD6, LpD9, LpD10, LpD11, LpD12, LpE2, LpE3, LpC9, LpY4, LpTN, LpEqY, LpTB1, LpC10, LpTB1p, LpTB2, LpTB3. No condition.
-/
import Derived.Test.YtfgfjbcoeakonaaGreatDoorLp4

set_option linter.all false
set_option maxHeartbeats 8000000
set_option maxRecDepth 100000
namespace Lp
open Go Go.Proofs
open List (length_cons length_nil map_map map_nil)
open Nat (lt_or_ge reduceAdd reduceLeDiff reduceMul reduceSub)
open Int (reduceLE reduceToNat toNat_natCast)
def oN:dN:=fun args objs K=>match args with
 | [.str s,.int .i64 i,.bool b]=>(s.length≤1000000000)∧(0≤i)∧(i≤s.length)∧K (.bU [encS (gJ s i.toNat b).1,.int .i64 (gJ s i.toNat b).2]) objs 0
 | _=>False
theorem Q9:aF Tryz.prog 149 (oN):=by
 intro args objs K h
 unfold oN at h
 split at h
 · rename_i s i b
   obtain ⟨h1,h2,h3,hk⟩:=h
   exact ⟨_,_,_,.pure _ rfl ((by have:=Vb s i.toNat b h1 (by omega);rwa [Int.toNat_of_nonneg h2] at this)),hk⟩
 · exact h.elim
theorem Ox (s:List UInt8) (a i:Nat) (ha:a≤s.length) (hi:i+1≤s.length∨s.length≤i):(ol s a i).2≤s.length:=by
 unfold ol
 split
 · exact ha
 · split
   · exact ha
   · rename_i h1 h2
     have h3:s[(dz s (i+1)).2]?=some 93:=Decidable.of_not_not fun h=>h2 (.inr h)
     exact (List.getElem?_eq_some_iff.1 h3).1
theorem XG (s:List UInt8) (i:Nat) (b:Bool) (hi:i≤s.length):(gJ s i b).2≤s.length:=by
 unfold gJ
 split
 · rename_i hd
   have h:=(List.getElem?_eq_some_iff.1 hd).1
   split
   · exact Ov s (i+1) (s.length-(i+1)) (i+1) (by omega)
   · split
     · rename_i hc
       have hu:=(yj (s.drop (i+1))).1 hc.1
       rw [List.length_drop] at hu
       show i+1+(bq (s.drop (i+1))).2.1.toNat≤s.length
       omega
     · split
       · exact Ox s i (i+1) hi (by omega)
       · exact hi
 · split
   · exact hi
   · exact Ox s i i hi (by omega)
theorem CW {s:List UInt8}{f i:Nat}{out:List Stp}(h:f=0∨(gJ s i out.isEmpty).2=i):Ce s f i out=(out,i):=by
 cases f with
 | zero=>rfl
 | succ f=>
  rcases h with h | h
  · omega
  · simp only [Ce];rw [if_pos h]
theorem Tn {s:List UInt8}{f i:Nat}{out:List Stp}(h:¬ (gJ s i out.isEmpty).2=i):Ce s (f+1) i out=Ce s f (gJ s i out.isEmpty).2 (out++[(gJ s i out.isEmpty).1]):=by
 simp only [Ce];rw [if_neg h]
def Oy (l:List Stp) (ver:Nat):Obj:=⟨122,3,l.map encS,true,ver⟩
theorem Ba (v:List Stp) (ver:Nat) (t:TypeId) (rest:List Obj):eP 1 0 (⟨t,3,v.map encS,true,ver⟩::rest) (.aY 0 ver)=jR v:=by
 have:(v.map encS).map (PV.bC (fG 0 0 (⟨t,3,v.map encS,true,ver⟩::rest)))=v.map encS:=by
  rw [map_map];exact List.map_congr_left fun x _=>rfl
 simp only [eP,Nat.not_lt_zero,if_false,fG,List.getElem?_cons_zero,Nat.le_refl,decide_true,Bool.true_and,beq_self_eq_true,if_true,this]
 rfl
theorem zSl:(PV.ve (.agg ⟨[.bool false,.string ⟨⟨[]⟩⟩,.int .i64 0]⟩)).cells.length=3:=rfl
theorem zSs:(PV.ve (.agg ⟨[.bool false,.string ⟨⟨[]⟩⟩,.int .i64 0]⟩)).cells.all PV.storable=true:=rfl
theorem acg (a:Stp):PV.agg [.bool a.part,.str a.name,.int .i64 a.n]=encS a:=rfl
theorem aar (a:Stp):encS ⟨a.part,a.name,a.n⟩=encS a:=rfl
theorem XH:∀ d X v,eP d 1 X (.aY 0 v)=.aY 0 v:=fun _ _ _=>rfl
theorem ach (X:List Obj) (l:List Stp) (a:Stp) (v:Nat):fu 1 1 X ⟨122,3,l.map encS++[encS a],true,v⟩=⟨122,3,l.map encS++[encS a],true,v⟩:=by
 unfold fu
 simp only [List.map_append,map_map,List.map_cons,map_nil]
 rfl
theorem Oz (s:List UInt8) (hs:s.length≤1000000000):ah Tryz.prog 117 [.str s,.int .i64 0] [] (.bU [jR (eG s).1,.int .i64 (eG s).2]) []:=by
 refine xQ.vN (T:=aQ Tryz.prog [(149,oN)]) 1 hD (aj (af Q9 ai)) aV (by decide) (by decide) fun Q hQ=>?_
 (conv=>arg 4;cbv);simp(maxSteps:=400000)only[↓ax,ay,BEq.rfl,reduceIte,reduceCtorEq,Nat.reduceLT,reduceAdd,reduceSub,reduceMul,Nat.reduceBEq,reduceLeDiff,reduceToNat,reduceLE,hQ,lY,lZ,l7,zSl,zSs]
 refine aA (fun m S=>∃ (i ver:Nat) (out:List Stp),m+out.length=20∧i≤s.length∧Ce s 20 0 []=Ce s m i out∧S=⟨dh 52 [(0,.str s),(1,.int .i64 i),(6,.aY 0 ver),(7,.int .i64 0)],[Oy out ver]⟩) 20 (hz:=Nat.zero_le _) ⟨0,1,[],rfl,by omega,rfl,?_⟩ ?_
 · simp only [bJ,keepR,reduceAdd,kU,Nat.reduceBEq,map_nil]
   rfl
 rintro m S ⟨i,ver,out,hm,hi,hB,rfl⟩
 rcases Nat.eq_zero_or_pos m with h0 | h0
 · subst h0
   have hlt:((out.length:Int)<20)=False:=eq_false (by omega)
   have b0:decide ((out.length:Int)=0)=false:=decide_eq_false (by omega)
   have hb:eG s=(out,i):=by
    unfold eG;rw [hB,CW (.inl rfl)]
    rw [if_neg];rintro ⟨h,_⟩;simp only at h;rw [h] at hm;simp at hm
   unfold Oy
   simp(maxSteps:=400000)only[↓ax,ay,BEq.rfl,reduceIte,reduceCtorEq,Nat.reduceLT,reduceAdd,reduceSub,reduceMul,Nat.reduceBEq,reduceLeDiff,reduceToNat,reduceLE,hQ,hlt,b0,hb,Ba]
 · obtain ⟨m,rfl⟩:∃ k,m=k+1:=⟨m-1,by omega⟩
   have hlt:((out.length:Int)<20)=True:=eq_true (by omega)
   have hle:=XG s i out.isEmpty hi
   have z0:Int.toNat 0=0:=rfl
   cases hE:out.isEmpty with
   | true=>
    have ho:out=[]:=List.isEmpty_iff.1 hE
    have b0:decide ((out.length:Int)=0)=true:=decide_eq_true (by rw [ho];rfl)
    have b1:((out.length:Int)=0)=True:=eq_true (by rw [ho];rfl)
    rw [hE] at hle
    by_cases hst:(gJ s i true).2=i
    · have hst':(((gJ s i true).2:Int)=(i:Int))=True:=eq_true (by omega)
      have hF:Ce s 20 0 []=([],i):=by rw [hB,CW (.inr (by rw [hE];exact hst)),ho]
      rcases lt_or_ge 0 s.length with hp | hp
      · have pl:((0:Int)<(s.length:Int))=True:=eq_true (by omega)
        have pg:=List.getElem?_eq_getElem hp
        generalize s[0]=d at pg
        have b46:(d.toNat:Int)=46↔d=46:=lM (k:=46) (by omega)
        by_cases hd:(d.toNat:Int)=46
        · have hb:eG s=(out,1):=by rw [ho];unfold eG;rw [hF,if_pos ⟨rfl,by rw [pg,b46.1 hd]⟩]
          unfold Oy
          simp(maxSteps:=400000)only[↓ax,ay,BEq.rfl,reduceIte,reduceCtorEq,Nat.reduceLT,reduceAdd,reduceSub,reduceMul,Nat.reduceBEq,reduceLeDiff,reduceToNat,reduceLE,hQ,hlt,b0,b1,↓oN,toNat_natCast,fV,lY,lZ,l7,zSl,zSs,hst',pl,z0,pg,hd,hb,Ba]
          repeat' (first | (omega) | exact rfl | intro _ | refine ⟨?_,?_⟩)
        · have hb:eG s=(out,i):=by rw [ho];unfold eG;rw [hF,if_neg];rintro ⟨_,h⟩;rw [pg] at h;exact hd (b46.2 (Option.some.inj h))
          have hd':=eq_false hd
          unfold Oy
          simp(maxSteps:=400000)only[↓ax,ay,BEq.rfl,reduceIte,reduceCtorEq,Nat.reduceLT,reduceAdd,reduceSub,reduceMul,Nat.reduceBEq,reduceLeDiff,reduceToNat,reduceLE,hQ,hlt,b0,b1,↓oN,toNat_natCast,fV,lY,lZ,l7,zSl,zSs,hst',pl,z0,pg,hd',hb,Ba]
          repeat' (first | (omega) | exact rfl | intro _ | refine ⟨?_,?_⟩)
      · have pl:((0:Int)<(s.length:Int))=False:=eq_false (by omega)
        have hb:eG s=(out,i):=by rw [ho];unfold eG;rw [hF,if_neg];rintro ⟨_,h⟩;rw [List.getElem?_eq_none_iff.2 hp] at h;cases h
        unfold Oy
        simp(maxSteps:=400000)only[↓ax,ay,BEq.rfl,reduceIte,reduceCtorEq,Nat.reduceLT,reduceAdd,reduceSub,reduceMul,Nat.reduceBEq,reduceLeDiff,reduceToNat,reduceLE,hQ,hlt,b0,b1,↓oN,toNat_natCast,fV,lY,lZ,l7,zSl,zSs,hst',pl,hb,Ba]
        repeat' (first | (omega) | exact rfl | intro _ | refine ⟨?_,?_⟩)
    · have hst':(((gJ s i true).2:Int)=(i:Int))=False:=eq_false (by omega)
      have hg:=Tn (s:=s) (f:=m) (i:=i) (out:=out) (by rw [hE];exact hst)
      rw [hE] at hg
      unfold Oy
      simp(maxSteps:=400000)only[↓ax,ay,BEq.rfl,reduceIte,reduceCtorEq,Nat.reduceLT,reduceAdd,reduceSub,reduceMul,Nat.reduceBEq,reduceLeDiff,reduceToNat,reduceLE,hQ,hlt,b0,↓oN,toNat_natCast,fV,lY,lZ,l7,zSl,zSs,hst',acg,aar,XH,List.take_succ_cons,List.take_zero,ach]
      repeat' (first | (omega) | exact ⟨m,by omega,(gJ s i true).2,ver+1,out++[(gJ s i true).1],by rw [List.length_append];simp only [length_cons,length_nil];omega,hle,hB.trans hg,by simp⟩ | intro _ | refine ⟨?_,?_⟩)
   | false=>
    have hon:out≠[]:=fun e=>by rw [e] at hE;cases hE
    have hol:0<out.length:=List.length_pos_iff.2 hon
    have b0:decide ((out.length:Int)=0)=false:=decide_eq_false (by omega)
    rw [hE] at hle
    by_cases hst:(gJ s i false).2=i
    · have hst':(((gJ s i false).2:Int)=(i:Int))=True:=eq_true (by omega)
      have hb:eG s=(out,i):=by
       unfold eG;rw [hB,CW (.inr (by rw [hE];exact hst)),if_neg];rintro ⟨h,_⟩;exact hon h
      unfold Oy
      simp(maxSteps:=400000)only[↓ax,ay,BEq.rfl,reduceIte,reduceCtorEq,Nat.reduceLT,reduceAdd,reduceSub,reduceMul,Nat.reduceBEq,reduceLeDiff,reduceToNat,reduceLE,hQ,hlt,b0,↓oN,toNat_natCast,fV,lY,lZ,l7,zSl,zSs,hst',hb,Ba]
      repeat' (first | (omega) | exact rfl | intro _ | refine ⟨?_,?_⟩)
    · have hst':(((gJ s i false).2:Int)=(i:Int))=False:=eq_false (by omega)
      have hg:=Tn (s:=s) (f:=m) (i:=i) (out:=out) (by rw [hE];exact hst)
      rw [hE] at hg
      unfold Oy
      simp(maxSteps:=400000)only[↓ax,ay,BEq.rfl,reduceIte,reduceCtorEq,Nat.reduceLT,reduceAdd,reduceSub,reduceMul,Nat.reduceBEq,reduceLeDiff,reduceToNat,reduceLE,hQ,hlt,b0,↓oN,toNat_natCast,fV,lY,lZ,l7,zSl,zSs,hst',acg,aar,XH,List.take_succ_cons,List.take_zero,ach]
      repeat' (first | (omega) | exact ⟨m,by omega,(gJ s i false).2,ver+1,out++[(gJ s i false).1],by rw [List.length_append];simp only [length_cons,length_nil];omega,hle,hB.trans hg,by simp⟩ | intro _ | refine ⟨?_,?_⟩)
def ni:dN:=fun args objs K=>match args with
 | [.str s,a1]=>a1=(.int .i64 0)∧(s.length≤1000000000)∧K (.bU [jR (eG s).1,.int .i64 (eG s).2]) objs 0
 | _=>False
theorem Le:aF Tryz.prog 117 (ni):=by
 intro args objs K h
 unfold ni at h
 split at h
 · rename_i s a1
   obtain ⟨rfl,h1,hk⟩:=h
   exact ⟨_,_,_,.pure _ rfl (Oz s h1),hk⟩
 · exact h.elim
def yo (s:List UInt8):PV:=if (iQ s).2.2=0 then .bU [jR (iQ s).1,.int .i64 (iQ s).2.1,.int .i64 (iQ s).2.2] else .bU [.sl 0 [] (some true),.int .i64 (iQ s).2.1,.int .i64 (iQ s).2.2]
theorem Q_ (s:List UInt8) (hs:s.length≤1000000000):ah Tryz.prog 99 [.str s] [] (yo s) []:=by
 refine AO.Xt (T:=aQ Tryz.prog [(117,ni)]) 0 hD (aj (af Le ai)) aV (by decide) (by decide) (by decide) fun Q hQ=>?_
 by_cases h46:s=[46]
 · have hr:yo s=.bU [jR (eG s).1,.int .i64 0,.int .i64 0]:=by simp only [yo,iQ,if_pos h46,if_true]
   have XI:=eq_true h46
   (conv=>arg 4;cbv);simp(maxSteps:=400000)only[↓ax,ay,BEq.rfl,reduceIte,reduceCtorEq,Nat.reduceLT,reduceAdd,reduceSub,reduceMul,Nat.reduceBEq,reduceLeDiff,reduceToNat,reduceLE,hQ,↓ni,fV,XI,hr]
   repeat' (first | (omega) | exact rfl | intro _ | refine ⟨?_,?_⟩)
 have XI:=eq_false h46
 cases hB:eG s with
 | mk p n=>
 by_cases hp:p=[]
 · have hr:yo s=.bU [.sl 0 [] (some true),.int .i64 0,.int .i64 1]:=by simp [yo,iQ,h46,hB,hp]
   subst hp
   have b0:((([]:List Stp).length:Int)=0)=True:=eq_true rfl
   (conv=>arg 4;cbv);simp(maxSteps:=400000)only[↓ax,ay,BEq.rfl,reduceIte,reduceCtorEq,Nat.reduceLT,reduceAdd,reduceSub,reduceMul,Nat.reduceBEq,reduceLeDiff,reduceToNat,reduceLE,hQ,↓ni,fV,XI,hB,b0,hr]
   repeat' (first | (omega) | exact rfl | intro _ | refine ⟨?_,?_⟩)
 · have hpl:0<p.length:=List.length_pos_iff.2 hp
   have b0:((p.length:Int)=0)=False:=eq_false (by omega)
   rcases lt_or_ge n s.length with hn | hn
   · have hn':((n:Int)<(s.length:Int))=True:=eq_true (by omega)
     have hr:yo s=.bU [.sl 0 [] (some true),.int .i64 n,.int .i64 1]:=by simp [yo,iQ,h46,hB,hp,hn]
     (conv=>arg 4;cbv);simp(maxSteps:=400000)only[↓ax,ay,BEq.rfl,reduceIte,reduceCtorEq,Nat.reduceLT,reduceAdd,reduceSub,reduceMul,Nat.reduceBEq,reduceLeDiff,reduceToNat,reduceLE,hQ,↓ni,fV,XI,hB,b0,hn',hr]
     repeat' (first | (omega) | exact rfl | intro _ | refine ⟨?_,?_⟩)
   · have hn':((n:Int)<(s.length:Int))=False:=eq_false (by omega)
     have hr:yo s=.bU [jR p,.int .i64 0,.int .i64 0]:=by simp [yo,iQ,h46,hB,hp,Nat.not_lt.2 hn]
     (conv=>arg 4;cbv);simp(maxSteps:=400000)only[↓ax,ay,BEq.rfl,reduceIte,reduceCtorEq,Nat.reduceLT,reduceAdd,reduceSub,reduceMul,Nat.reduceBEq,reduceLeDiff,reduceToNat,reduceLE,hQ,↓ni,fV,XI,hB,b0,hn',hr]
     repeat' (first | (omega) | exact rfl | intro _ | refine ⟨?_,?_⟩)
theorem aa8 {a b c a':PV}(h:j5 a a'):j5 (.bU [a,b,c]) (.bU [a',b,c]):=
 .bU rfl fun i p q hp hq=>by
  match i with
  | 0=>cases hp;cases hq;exact h
  | 1=>cases hp;cases hq;exact .refl _
  | 2=>cases hp;cases hq;exact .refl _
  | _+3=>simp at hp
theorem Vd {s:List UInt8}(h:¬ (iQ s).2.2=0):(iQ s).1=[]:=by
 unfold iQ at h ⊢
 split
 · rename_i h1;rw [if_pos h1] at h;exact absurd rfl h
 · rename_i h1
   rw [if_neg h1] at h
   split
   · rfl
   · rename_i h2
     rw [if_neg h2] at h
     split
     · rfl
     · rename_i h3;rw [if_neg h3] at h;exact absurd rfl h
theorem Ve (s:List UInt8) (hs:s.length≤1000000000):ah Tryz.prog 99 [.str s] [] (.bU [jR (iQ s).1,.int .i64 (iQ s).2.1,.int .i64 (iQ s).2.2]) []:=by
 refine (Q_ s hs).res ?_
 unfold yo
 split
 · exact .refl _
 · rename_i h;rw [Vd h];exact aa8 (m_ 0 3)
def Bb:dN:=fun args objs K=>match args with
 | [.str s]=>(s.length≤1000000000)∧K (.bU [jR (iQ s).1,.int .i64 (iQ s).2.1,.int .i64 (iQ s).2.2]) objs 0
 | _=>False
theorem Ra:aF Tryz.prog 99 (Bb):=by
 intro args objs K h
 unfold Bb at h
 split at h
 · rename_i s
   obtain ⟨h1,hk⟩:=h
   exact ⟨_,_,_,.pure _ rfl (Ve s h1),hk⟩
 · exact h.elim
theorem OA (s:List UInt8):∀ (f i:Nat) (out:List Stp),(Ce s f i out).1.length≤out.length+f
 | 0,_,_=>Nat.le_refl _
 | f+1,i,out=>by
  simp only [Ce]
  split
  · show out.length≤_;omega
  · have:=OA s f (gJ s i out.isEmpty).2 (out++[(gJ s i out.isEmpty).1])
    rw [List.length_append] at this
    simp only [length_cons,length_nil] at this
    omega
theorem JW (s:List UInt8):(iR s).length≤20:=by
 have hb:(eG s).1.length≤20:=by
  unfold eG
  split
  · simp
  · have:=OA s 20 0 [];simpa using this
 unfold iR iQ
 split
 · exact hb
 · split
   · simp
   · split
     · simp
     · exact hb
theorem OB (p:List Stp) (hp:p.length≤1000000):ah Tryz.prog 100 [jR p] [] (.bool (p.all fun x=>!x.part)) []:=by
 refine xR.bg (T:=aQ Tryz.prog []) 0 hD (aj ai) aV (by decide) fun Q hQ=>?_
 (conv=>arg 4;cbv);simp(maxSteps:=400000)only[↓ax,ay,BEq.rfl,reduceIte,reduceCtorEq,Nat.reduceLT,reduceAdd,reduceSub,reduceMul,Nat.reduceBEq,reduceLeDiff,reduceToNat,reduceLE,hQ]
 refine aA (fun m S=>∃ i:Nat,i+m=p.length∧(∀ (j:Nat) x,j<i→p[j]?=some x→x.part=false)∧S=⟨dh 15 [(0,jR p),(3,.int .i64 i)],[]⟩) p.length ⟨0,by omega,fun j x h=>absurd h (Nat.not_lt_zero j),?_⟩ ?_
 · simp only [bJ,keepR,reduceAdd,kU,Nat.reduceBEq,map_nil]
   rfl
 rintro m S ⟨i,him,hb,rfl⟩
 have zi:(0≤(i:Int))=True:=eq_true (by omega)
 rcases lt_or_ge i p.length with h | h
 · have hlt:((i:Int)<(p.length:Int))=True:=eq_true (by omega)
   have hgi:=List.getElem?_eq_getElem h
   generalize p[i]=x at hgi
   cases hx:x.part with
   | true=>
    have hr:(p.all fun x=>!x.part)=false:=by rw [List.all_eq_false];exact ⟨x,List.mem_of_getElem? hgi,by simp [hx]⟩
    simp(maxSteps:=400000)only[↓ax,ay,BEq.rfl,reduceIte,reduceCtorEq,Nat.reduceLT,reduceAdd,reduceSub,reduceMul,Nat.reduceBEq,reduceLeDiff,reduceToNat,reduceLE,hQ,hlt,zi,hgi,hx,hr]
   | false=>
    simp(maxSteps:=400000)only[↓ax,ay,BEq.rfl,reduceIte,reduceCtorEq,Nat.reduceLT,reduceAdd,reduceSub,reduceMul,Nat.reduceBEq,reduceLeDiff,reduceToNat,reduceLE,hQ,hlt,zi,hgi,hx]
    refine ⟨⟨by omega,by omega⟩,m-1,by omega,i+1,by omega,fun j y hj hy=>?_,rfl⟩
    rcases lt_or_ge j i with g | g
    · exact hb j y g hy
    · have:j=i:=by omega
      subst this
      rw [hgi] at hy;cases hy;exact hx
 · have hlt:((i:Int)<(p.length:Int))=False:=eq_false (by omega)
   have hr:(p.all fun x=>!x.part)=true:=by
    rw [List.all_eq_true];intro x hx
    obtain ⟨j,hj⟩:=List.mem_iff_getElem?.1 hx
    have:=(List.getElem?_eq_some_iff.1 hj).1
    rw [hb j x (by omega) hj];rfl
   simp(maxSteps:=400000)only[↓ax,ay,BEq.rfl,reduceIte,reduceCtorEq,Nat.reduceLT,reduceAdd,reduceSub,reduceMul,Nat.reduceBEq,reduceLeDiff,reduceToNat,reduceLE,hQ,hlt,hr]
def rZ:dN:=fun args objs K=>match args with
 | [a0]=>gZ jR a0 (HK.mk:HK fun p=>(p.length≤1000000)∧K (.bool (p.all fun x=>!x.part)) objs 0)
 | _=>False
theorem Lf:aF Tryz.prog 100 (rZ):=by
 intro args objs K h
 unfold rZ at h
 split at h
 · rename_i a0
   obtain ⟨p,rfl,h1,hk⟩:=h
   exact ⟨_,_,_,.pure _ rfl (OB p h1),hk⟩
 · exact h.elim
theorem Vf (s:List UInt8) (hs:s.length≤1000000000):ah Tryz.prog 72 [.str s] [] (.bU [jR (iR s),.bool (bI s)]) []:=by
 refine AP.vN (T:=aQ Tryz.prog [(99,Bb),(100,rZ)]) 0 hD (aj (af Ra (af Lf ai))) aV (by decide) (by decide) fun Q hQ=>?_
 have hl:=JW s
 unfold iR at hl
 by_cases he:(iQ s).2.2=0
 · have he':=eq_true he
   have d1:decide ((iQ s).2.2=0)=true:=decide_eq_true he
   have hr:bI s=(iQ s).1.all fun x=>!x.part:=by unfold bI;rw [d1];rfl
   (conv=>arg 4;cbv);simp(maxSteps:=400000)only[↓ax,ay,BEq.rfl,reduceIte,reduceCtorEq,Nat.reduceLT,reduceAdd,reduceSub,reduceMul,Nat.reduceBEq,reduceLeDiff,reduceToNat,reduceLE,hQ,↓Bb,↓rZ,fV,he',iR,hr]
   repeat' (first | (omega) | exact rfl | intro _ | refine ⟨?_,?_⟩)
 · have he':=eq_false he
   have d1:decide ((iQ s).2.2=0)=false:=decide_eq_false he
   have hr:bI s=false:=by unfold bI;rw [d1];rfl
   (conv=>arg 4;cbv);simp(maxSteps:=400000)only[↓ax,ay,BEq.rfl,reduceIte,reduceCtorEq,Nat.reduceLT,reduceAdd,reduceSub,reduceMul,Nat.reduceBEq,reduceLeDiff,reduceToNat,reduceLE,hQ,↓Bb,↓rZ,fV,he',iR,hr]
   repeat' (first | (omega) | exact rfl | intro _ | refine ⟨?_,?_⟩)
def fP:dN:=fun args objs K=>match args with
 | [.str s]=>(s.length≤1000000000)∧K (.bU [jR (iR s),.bool (bI s)]) objs 0
 | _=>False
theorem Bc:aF Tryz.prog 72 (fP):=by
 intro args objs K h
 unfold fP at h
 split at h
 · rename_i s
   obtain ⟨h1,hk⟩:=h
   exact ⟨_,_,_,.pure _ rfl (Vf s h1),hk⟩
 · exact h.elim
end Lp
namespace Lp
open Go Go.Proofs
open Nat (reduceAdd reduceLeDiff reduceMul reduceSub)
open Int (reduceLE reduceToNat)
def yt (n:Nd) (p:Int):Int:=
 let i:Int:=n.s.length-1-(p-n.e)
 if i<0 then 0 else match n.s[i.toNat]? with
  | some c=>(c.toNat:Int)-48
  | none=>0
def l8 (a b:Nd):Nat→Int→Int
 | 0,_=>0
 | k+1,p=>if yt a p<yt b p then -1 else if yt b p<yt a p then 1 else l8 a b k (p-1)
def ku (a b:Nd):Int:=if (b.s.length+b.e:Int) > a.s.length+a.e then (b.s.length+b.e:Int) else a.s.length+a.e
def jK (a b:Nd):Int:=if b.e<a.e then b.e else a.e
def kV (a b:Nd):Int:=
 let side:Int:=if a.neg then -1 else 1
 if a.neg≠b.neg then side else side*l8 a b (ku a b-jK a b+1).toNat (ku a b)
structure Bd (n:Nd):Prop where
 len:n.s.length≤200
 fM:fM n.s=true
 lo:-1000≤n.e
 hi:n.e≤1000
theorem pX {s:List UInt8}(h:fM s=true){i:Nat}{c:UInt8}(hc:s[i]?=some c):48≤c.toNat∧c.toNat≤57:=by
 simp only [fM,List.all_eq_true,Bool.and_eq_true,decide_eq_true_eq] at h
 have:=h c (List.mem_of_getElem? hc)
 exact ⟨UInt8.le_iff_toNat_le.1 this.1,UInt8.le_iff_toNat_le.1 this.2⟩
theorem Y8 (n:Nd) (p:Int) (hn:Bd n) (hp:-2000≤p∧p≤2000):ah Tryz.prog 115 [au n,.int .i64 p] [] (.int .i64 (yt n p)) []:=by
 obtain ⟨h1,h2,h3,h4⟩:=hn
 refine Ef.pure (T:=aQ Tryz.prog []) 0 hD (aj ai) aV (by decide) ?_
 (conv=>arg 4;cbv);simp(maxSteps:=400000)only[↓aB,aC,BEq.rfl,reduceIte,reduceCtorEq,Nat.reduceLT,reduceAdd,reduceSub,reduceMul,Nat.reduceBEq,reduceLeDiff,reduceToNat,reduceLE]
 refine aR _ (Weak.freeze 1 0 (Nat.le_refl _) _) ?_
 simp(maxSteps:=400000)only[↓aB,aC,BEq.rfl,reduceIte,reduceCtorEq,Nat.reduceLT,reduceAdd,reduceSub,reduceMul,Nat.reduceBEq,reduceLeDiff,reduceToNat,reduceLE,jb]
 refine ⟨⟨by omega,by omega⟩,⟨by omega,by omega⟩,⟨by omega,by omega⟩,fun h=>?_,fun h=>⟨fun h'=>?_,fun h'=>⟨by omega,?_⟩⟩⟩
 · simp only [yt,if_pos h]
 · have:n.s[(↑n.s.length-1-(p-n.e)).toNat]?=none:=List.getElem?_eq_none (by omega)
   simp only [yt,if_neg h,this]
 · have hi:(↑n.s.length-1-(p-n.e)).toNat<n.s.length:=by omega
   have hg:=List.getElem?_eq_getElem hi
   have hf:=pX h2 hg
   generalize hc:n.s[(↑n.s.length-1-(p-n.e)).toNat]=c at *
   simp(maxSteps:=400000)only[↓aB,aC,BEq.rfl,reduceIte,reduceCtorEq,Nat.reduceLT,reduceAdd,reduceSub,reduceMul,Nat.reduceBEq,reduceLeDiff,reduceToNat,reduceLE,hg,jN,mI,IntKind.wrap]
   refine ⟨⟨by omega,by omega⟩,?_⟩
   simp only [yt,if_neg h,hg]
   have hm:((c.toNat:Int)-48) % 2 ^ IntKind.i64.bits=(c.toNat:Int)-48:=Int.emod_eq_of_lt (by omega) (by have:(2:Int) ^ IntKind.i64.bits=18446744073709551616:=rfl;omega)
   rw [hm,if_neg]
   have h2:(2:Int) ^ (IntKind.i64.bits-1)=9223372036854775808:=rfl
   have h3:IntKind.i64.signed=true:=rfl
   rw [h2,h3]
   simp
   omega
def Tp:dN:=fun args objs K=>match args with
 | [a0,.int .i64 p]=>gZ au a0 (HK.mk:HK fun n=>(Bd n)∧(-2000≤p∧p≤2000)∧K (.int .i64 (yt n p)) objs 0)
 | _=>False
theorem XJ:aF Tryz.prog 115 (Tp):=by
 intro args objs K h
 unfold Tp at h
 split at h
 · rename_i a0 p
   obtain ⟨n,rfl,h1,h2,hk⟩:=h
   exact ⟨_,_,_,.pure _ rfl (Y8 n p h1 h2),hk⟩
 · exact h.elim
theorem OC (a b:Nd) (ha:Bd a) (hb:Bd b):ah Tryz.prog 92 [au a,au b] [] (.int .i64 (kV a b)) []:=by
 refine CB.pure (T:=aQ Tryz.prog [(115,Tp)]) 0 hD (aj (af XJ ai)) aV (by decide) ?_
 (conv=>arg 4;cbv);simp(maxSteps:=400000)only[↓aB,aC,BEq.rfl,reduceIte,reduceCtorEq,Nat.reduceLT,reduceAdd,reduceSub,reduceMul,Nat.reduceBEq,reduceLeDiff,reduceToNat,reduceLE]
 refine aR _ (Weak.freeze 1 0 (Nat.le_refl _) _) ?_
 cases hx:a.neg <;> cases hy:b.neg
 all_goals simp(maxSteps:=400000)only[↓aB,aC,BEq.rfl,reduceIte,reduceCtorEq,Nat.reduceLT,reduceAdd,reduceSub,reduceMul,Nat.reduceBEq,reduceLeDiff,reduceToNat,reduceLE,Xg,Xh,hx,hy]
 case false.true=>simp [kV,hx,hy]
 case true.false=>simp [kV,hx,hy]
 all_goals
  have b1:-2000≤ku a b∧ku a b≤2000:=by obtain ⟨a1,a2,a3,a4⟩:=ha;obtain ⟨b1,b2,b3,b4⟩:=hb;unfold ku;split <;> omega
  have b2:-1000≤jK a b∧jK a b≤1000:=by obtain ⟨a1,a2,a3,a4⟩:=ha;obtain ⟨b1,b2,b3,b4⟩:=hb;unfold jK;split <;> omega
  have l1:=ha.len
  have l2:=hb.len
  have e1:=ha.lo
  have e2:=ha.hi
  have e3:=hb.lo
  have e4:=hb.hi
  refine ⟨⟨by omega,by omega⟩,⟨by omega,by omega⟩,?_⟩
  refine aA (fun m S=>∃ p:Int,(m:Int)=(if 0≤p-jK a b+1 then p-jK a b+1 else 0)∧p≤ku a b∧-2000≤p∧
   (l8 a b (ku a b-jK a b+1).toNat (ku a b)=l8 a b (p-jK a b+1).toNat p)∧
   S=⟨dh 56 [(2,.addr (au a)),(3,.addr (au b)),(5,.int .i64 (if a.neg=true then -1 else 1)),(7,.int .i64 p)],[]⟩) (ku a b-jK a b+1).toNat ⟨ku a b,?_,Int.le_refl _,by omega,rfl,?_⟩ ?_
  · split <;> omega
  · simp only [bJ,keepR,reduceAdd,kU,Nat.reduceBEq,hx,if_true,if_false,ku,Bool.false_eq_true]
  rintro m S ⟨p,hm,hp1,hp2,hd,rfl⟩
  simp(maxSteps:=400000)only[↓aB,aC,BEq.rfl,reduceIte,reduceCtorEq,Nat.reduceLT,reduceAdd,reduceSub,reduceMul,Nat.reduceBEq,reduceLeDiff,reduceToNat,reduceLE,↓Tp]
  refine ⟨fun hlow=>⟨ha,⟨by omega,by omega⟩,hb,⟨by omega,by omega⟩,fun hlt=>?_,fun hlt=>⟨fun hgt=>?_,fun hgt=>?_⟩⟩,fun hlow=>?_⟩
  · have hl:jK a b≤p:=hlow
    have e:(p-jK a b+1).toNat=(p-jK a b).toNat+1:=by omega
    rw [e] at hd
    simp only [l8,if_pos hlt] at hd
    simp only [kV,hd,hx,hy]
    simp
  · have hl:jK a b≤p:=hlow
    have e:(p-jK a b+1).toNat=(p-jK a b).toNat+1:=by omega
    rw [e] at hd
    simp only [l8,if_neg hlt,if_pos hgt] at hd
    simp only [kV,hd,hx,hy]
    simp
  · have hl:jK a b≤p:=hlow
    have e:(p-jK a b+1).toNat=(p-1-jK a b+1).toNat+1:=by omega
    rw [e] at hd
    simp only [l8,if_neg hlt,if_neg hgt] at hd
    rw [if_pos (by omega)] at hm
    refine ⟨⟨by omega,by omega⟩,m-1,by omega,p-1,?_,by omega,by omega,hd,rfl⟩
    split <;> omega
  · have hl:¬ jK a b≤p:=hlow
    have e:(p-jK a b+1).toNat=0:=by omega
    rw [e] at hd
    simp only [l8] at hd
    simp only [kV,hd,hx,hy]
    simp
def wZ:dN:=fun args objs K=>match args with
 | [a0,a1]=>gZ au a0 (HK.mk:HK fun a=>gZ au a1 (HK.mk:HK fun b=>(Bd a)∧(Bd b)∧K (.int .i64 (kV a b)) objs 0))
 | _=>False
theorem Lg:aF Tryz.prog 92 (wZ):=by
 intro args objs K h
 unfold wZ at h
 split at h
 · rename_i a0 a1
   obtain ⟨a,rfl,b,rfl,h1,h2,hk⟩:=h
   exact ⟨_,_,_,.pure _ rfl (OC a b h1 h2),hk⟩
 · exact h.elim
end Lp
namespace Lp
open Go Go.Proofs
theorem Gm (x:Int):ah Tryz.prog 166 [.int .i64 x] [] (.bool false) []:=by
 refine CF.pure (T:=aQ Tryz.prog []) 0 hD (aj ai) aV (by decide) ?_
 (conv=>arg 4;cbv);simp only [↓Ai,EO,↓Cw,↓yJ,↓Cx,yK,↓mX,mE,iW,eT,Ee,Nat.reduceAdd,Nat.reduceSub,qV,bR,Hy,Hz]
 simp
def Lh:dN:=fun args objs K=>∃ x:Int,args=[.int .i64 x]∧K (.bool false) objs 0
theorem Rb:aF Tryz.prog 166 Lh:=by
 rintro args objs K ⟨x,rfl,hk⟩
 exact ⟨_,_,_,.pure _ rfl (Gm x),hk⟩
theorem CX (x y:Int):ah Tryz.prog 131 [.int .i64 x,.int .i64 y] [] (.int .i64 (sK x y)) []:=by
 refine yN.pure (T:=aQ Tryz.prog [(166,Lh)]) 0 hD (aj (af Rb ai)) aV (by decide) ?_
 (conv=>arg 4;cbv);simp only [↓Ai,EO,↓Cw,↓yJ,↓Cx,yK,↓mX,mE,iW,eT,Ee,Nat.reduceAdd,Nat.reduceSub,qV,bR,ZN,ZO,Lh,Nat.reduceBEq,BEq.rfl,cond_true,cond_false,qA,Hy,Hz]
 refine ⟨x,rfl,y,rfl,(fun h=>by cases h),fun _=>⟨(fun h=>by cases h),fun _=>⟨fun h=>?_,fun h=>⟨fun h'=>?_,fun h'=>?_⟩⟩⟩⟩
 · rw [sK,if_pos (of_decide_eq_true h)]
 · rw [sK,if_neg (of_decide_eq_false h),if_pos (of_decide_eq_true h')]
 · rw [sK,if_neg (of_decide_eq_false h),if_neg (of_decide_eq_false h')]
theorem Gn (x:List UInt8):ah Tryz.prog 168 [.str x] [] (.bool false) []:=by
 refine xM.pure (T:=aQ Tryz.prog []) 0 hD (aj ai) aV (by decide) ?_
 (conv=>arg 4;cbv);simp only [↓Ai,EO,↓Cw,↓yJ,↓Cx,yK,↓mX,mE,iW,eT,Ee,Nat.reduceAdd,Nat.reduceSub,qV,bR,Hy,iT]
 simp
def Li:dN:=fun args objs K=>∃ x:List UInt8,args=[.str x]∧K (.bool false) objs 0
theorem Rc:aF Tryz.prog 168 Li:=by
 rintro args objs K ⟨x,rfl,hk⟩
 exact ⟨_,_,_,.pure _ rfl (Gn x),hk⟩
theorem r9 (x y:List UInt8):ah Tryz.prog 133 [.str x,.str y] [] (.int .i64 (jk x y)) []:=by
 refine uW.pure (T:=aQ Tryz.prog [(168,Li)]) 0 hD (aj (af Rc ai)) aV (by decide) ?_
 (conv=>arg 4;cbv);simp only [↓Ai,EO,↓Cw,↓yJ,↓Cx,yK,↓mX,mE,iW,eT,Ee,Nat.reduceAdd,Nat.reduceSub,qV,bR,ZN,ZO,Li,Nat.reduceBEq,BEq.rfl,cond_true,cond_false,qA,Hy,iT]
 refine ⟨x,rfl,y,rfl,(fun h=>by cases h),fun _=>⟨(fun h=>by cases h),fun _=>⟨fun h=>?_,fun h=>⟨fun h'=>?_,fun h'=>?_⟩⟩⟩⟩
 · rw [jk,if_pos h]
 · rw [h,Bool.false_or] at h'
   have hne:x≠y:=by simpa using h'
   rw [jk,if_neg (by rw [h];simp),if_neg hne]
 · rw [h,Bool.false_or] at h'
   have he:x=y:=by simpa using h'
   rw [jk,if_neg (by rw [h];simp),if_pos he]
end Lp
namespace Lp
open Go Go.Proofs
def Lj:dN:=fun args objs K=>∃ x y:List UInt8,args=[.str x,.str y]∧K (.int .i64 (jk x y)) objs 0
theorem Rf:aF Tryz.prog 133 Lj:=by
 rintro args objs K ⟨x,y,rfl,hk⟩
 exact ⟨_,_,_,.pure _ rfl (r9 x y),hk⟩
theorem zm (a b:List (List UInt8)) (ha:a.length≤9223372036854775807) (_hb:b.length≤9223372036854775807) :
  ah Tryz.prog 134 [cZ a,cZ b] [] (.int .i64 (eD jk a b)) []:=by
 refine lG.pure (T:=aQ Tryz.prog [(133,Lj)]) 0 hD (aj (af Rf ai)) aV (by decide) ?_
 (conv=>arg 4;cbv);simp only [↓Ai,EO,↓Cw,↓yJ,↓Cx,yK,↓mX,mE,iW,eT,Ee,Nat.reduceAdd,Nat.reduceSub,qV,bR,eH,pI,cZ,List.length_map,Hy,Hz]
 refine aA (fun m S=>∃ i:Nat,m=a.length-i∧i≤a.length∧i≤b.length∧eD jk (a.drop i) (b.drop i)=eD jk a b∧
  S=⟨mkT 36 [(0,cZ a),(1,cZ b),(9,cZ a),(10,.int .i64 a.length),(11,.int .i64 i)],[]⟩) a.length ⟨0,rfl,Nat.zero_le _,Nat.zero_le _,rfl,?_⟩ ?_
 · simp only [Tc,cZ,qV];rfl
 rintro m S ⟨i,rfl,hi,hib,hlex,rfl⟩
 simp only [↓Ai,EO,↓Cw,↓yJ,↓Cx,yK,↓mX,mE,iW,eT,Ee,Nat.reduceAdd,Nat.reduceSub,qV,Tc,bR,ZN,ZO,Lj,Nat.reduceBEq,BEq.rfl,cond_true,cond_false,eH,pI,cZ,Hy,Hz,yL,List.length_map,aZ,eY,↓yc,Ik,EP,ne_eq,reduceCtorEq,not_false_eq_true,true_and,PV.bool.injEq,Int.toNat_natCast,List.length_cons,List.length_nil]
 refine ⟨fun h=>?_,fun h=>?_⟩
 · have hlt:i<a.length:=by have:=of_decide_eq_true h;omega
   rw [List.drop_eq_getElem_cons hlt] at hlex
   refine ⟨by omega,a[i],List.getElem?_eq_getElem hlt,fun hge=>?_,fun hgl=>?_⟩
   · have hbe:b.length≤i:=by have:=of_decide_eq_true hge;omega
     rw [List.drop_eq_nil_of_le hbe] at hlex
     rw [← hlex];rfl
   · have hbl:i<b.length:=by have:=of_decide_eq_false hgl;omega
     rw [List.drop_eq_getElem_cons hbl] at hlex
     refine ⟨by omega,b[i],List.getElem?_eq_getElem hbl,a[i],b[i],rfl,fun hne=>?_,fun heq=>⟨by omega,a.length-(i+1),by omega,i+1,rfl,by omega,by omega,?_,rfl⟩⟩
     · have hne':jk a[i] b[i]≠0:=by simpa using hne
       rw [← hlex,eD,if_neg hne']
     · have heq':jk a[i] b[i]=0:=by simpa using heq
       rw [← hlex,eD,if_pos heq']
 · rw [if_pos trivial]
   have hge:a.length≤i:=by have:=of_decide_eq_false h;omega
   rw [List.drop_eq_nil_of_le hge] at hlex
   refine ⟨fun hl=>?_,fun hl=>?_⟩
   · have hl':i<b.length:=by have:=of_decide_eq_true hl;omega
     rw [List.drop_eq_getElem_cons hl'] at hlex
     rw [← hlex];rfl
   · have hl':b.length≤i:=by have:=of_decide_eq_false hl;omega
     rw [List.drop_eq_nil_of_le hl'] at hlex
     rw [← hlex];rfl
end Lp
namespace Lp
open Go Go.Proofs
def aa9 (a b:List Vl) (f:Vl→Vl→Int):dN:=fun args objs K=>∃ x y:Vl,(x ∈ a∧y ∈ b)∧args=[aD x,aD y]∧K (.int .i64 (f x y)) objs 0
theorem Y9 (a b:List Vl) (g:FuncId) (f:Vl→Vl→Int) (hg:∀ x ∈ a,∀ y ∈ b,ah Tryz.prog g [aD x,aD y] [] (.int .i64 (f x y)) []):aF Tryz.prog g (aa9 a b f):=by
 rintro args objs K ⟨x,y,⟨hx,hy⟩,rfl,hk⟩
 exact ⟨_,_,_,.pure _ rfl (hg x hx y hy),hk⟩
theorem tT (a b:List Vl) (g:FuncId) (f:Vl→Vl→Int) (ha:a.length≤9223372036854775807) (hg:∀ x ∈ a,∀ y ∈ b,ah Tryz.prog g [aD x,aD y] [] (.int .i64 (f x y)) []) :
  ah Tryz.prog 136 [dK a,dK b,.fn g [] []] [] (.int .i64 (eD f a b)) []:=by
 refine fE.pure (T:=aQ Tryz.prog [(g,aa9 a b f)]) 0 hD (aj (af (Y9 a b g f hg) ai)) aV (by decide) ?_
 (conv=>arg 4;cbv);simp only [↓Ai,EO,↓Cw,↓yJ,↓Cx,yK,↓mX,mE,iW,eT,Ee,Nat.reduceAdd,Nat.reduceSub,qV,bR,eH,pI,dK,List.length_map,Hy,Hz]
 refine aA (fun m S=>∃ i:Nat,m=a.length-i∧i≤a.length∧i≤b.length∧eD f (a.drop i) (b.drop i)=eD f a b∧
  S=⟨mkT 39 [(0,dK a),(1,dK b),(2,.fn g [] []),(11,dK a),(12,.int .i64 a.length),(13,.int .i64 i)],[]⟩) a.length ⟨0,rfl,Nat.zero_le _,Nat.zero_le _,rfl,?_⟩ ?_
 · simp only [Tc,dK,qV];rfl
 rintro m S ⟨i,rfl,hi,hib,hlex,rfl⟩
 simp only [↓Ai,EO,↓Cw,↓yJ,↓Cx,yK,↓mX,mE,iW,eT,Ee,Nat.reduceAdd,Nat.reduceSub,qV,Tc,bR,ZN,ZO,aa9,Nat.reduceBEq,BEq.rfl,cond_true,cond_false,eH,pI,dK,Hy,Hz,yL,List.length_map,aZ,eY,↓yc,Ik,EP,ne_eq,reduceCtorEq,not_false_eq_true,true_and,PV.bool.injEq,Int.toNat_natCast,List.length_cons,List.length_nil]
 refine ⟨fun h=>?_,fun h=>?_⟩
 · have hlt:i<a.length:=by have:=of_decide_eq_true h;omega
   rw [List.drop_eq_getElem_cons hlt] at hlex
   refine ⟨by omega,a[i],List.getElem?_eq_getElem hlt,rfl,rfl,fun hge=>?_,fun hgl=>?_⟩
   · have hbe:b.length≤i:=by have:=of_decide_eq_true hge;omega
     rw [List.drop_eq_nil_of_le hbe] at hlex
     rw [← hlex];rfl
   · have hbl:i<b.length:=by have:=of_decide_eq_false hgl;omega
     rw [List.drop_eq_getElem_cons hbl] at hlex
     refine ⟨by omega,b[i],List.getElem?_eq_getElem hbl,rfl,rfl,a[i],b[i],⟨List.getElem_mem _,List.getElem_mem _⟩,rfl,fun hne=>?_,fun heq=>⟨by omega,a.length-(i+1),by omega,i+1,rfl,by omega,by omega,?_,rfl⟩⟩
     · have hne':f a[i] b[i]≠0:=by simpa using hne
       rw [← hlex,eD,if_neg hne']
     · have heq':f a[i] b[i]=0:=by simpa using heq
       rw [← hlex,eD,if_pos heq']
 · rw [if_pos trivial]
   have hge:a.length≤i:=by have:=of_decide_eq_false h;omega
   rw [List.drop_eq_nil_of_le hge] at hlex
   refine ⟨fun hl=>?_,fun hl=>?_⟩
   · have hl':i<b.length:=by have:=of_decide_eq_true hl;omega
     rw [List.drop_eq_getElem_cons hl'] at hlex
     rw [← hlex];rfl
   · have hl':b.length≤i:=by have:=of_decide_eq_false hl;omega
     rw [List.drop_eq_nil_of_le hl'] at hlex
     rw [← hlex];rfl
end Lp
namespace Lp
open Go Go.Proofs
open Nat (reduceAdd reduceLeDiff reduceMul reduceSub)
def w9:dN:=fun args objs K=>match args with
 | [.int .i64 x,.int .i64 y]=>K (.int .i64 (sK x y)) objs 0
 | _=>False
theorem Gp:aF Tryz.prog 131 (w9):=by
 intro args objs K h
 unfold w9 at h
 split at h
 · rename_i x y
   have hk:=h
   exact ⟨_,_,_,.pure _ rfl (CX x y),hk⟩
 · exact h.elim
def w_:dN:=fun args objs K=>match args with
 | [.str x,.str y]=>K (.int .i64 (jk x y)) objs 0
 | _=>False
theorem Gq:aF Tryz.prog 133 (w_):=by
 intro args objs K h
 unfold w_ at h
 split at h
 · rename_i x y
   have hk:=h
   exact ⟨_,_,_,.pure _ rfl (r9 x y),hk⟩
 · exact h.elim
theorem Vg (a b:Nd) (ha:a.s.length≤1000000) (hb:b.s.length≤1000000) (hae:-1000≤a.e∧a.e≤1000) (hbe:-1000≤b.e∧b.e≤1000):ah Tryz.prog 167 [au a,au b] [] (.int .i64 (oh a b)) []:=by
 refine Qw.pure (T:=aQ Tryz.prog [(131,w9),(133,w_)]) 0 hD (aj (af Gp (af Gq ai))) aV (by decide) ?_
 (conv=>arg 4;cbv);simp(maxSteps:=400000)only[↓aB,aC,BEq.rfl,reduceIte,reduceCtorEq,Nat.reduceLT,reduceAdd,reduceSub,reduceMul,Nat.reduceBEq,reduceLeDiff,Int.reduceToNat,Int.reduceLE]
 refine aR _ (Weak.freeze 1 0 (Nat.le_refl _) _) ?_
 simp(maxSteps:=400000)only[↓aB,aC,BEq.rfl,reduceIte,reduceCtorEq,Nat.reduceLT,reduceAdd,reduceSub,reduceMul,Nat.reduceBEq,reduceLeDiff,Int.reduceToNat,Int.reduceLE,Xg,Xh,↓w9,↓w_]
 refine ⟨fun h=>?_,fun h=>⟨fun h'=>?_,fun h'=>⟨⟨by omega,by omega⟩,⟨by omega,by omega⟩,fun h0=>?_,fun h0=>?_⟩⟩⟩
 · rw [oh,if_pos (.inl h)]
 · rw [oh,if_pos (.inr h')]
 · rw [oh,if_neg (by simp [h,h']),if_pos h0]
 · rw [oh,if_neg (by simp [h,h']),if_neg h0]
def XK (n:Nd):Prop:=n.s.length≤1000000∧-1000≤n.e∧n.e≤1000
def EW:dN:=fun args objs K=>match args with
 | [a0,a1]=>gZ au a0 (HK.mk:HK fun a=>gZ au a1 (HK.mk:HK fun b=>(XK a)∧(XK b)∧K (.int .i64 (oh a b)) objs 0))
 | _=>False
theorem Rh:aF Tryz.prog 167 (EW):=by
 intro args objs K h
 unfold EW at h
 split at h
 · rename_i a0 a1
   obtain ⟨a,rfl,b,rfl,h1,h2,hk⟩:=h
   exact ⟨_,_,_,.pure _ rfl (Vg a b h1.1 h2.1 h1.2 h2.2),hk⟩
 · exact h.elim
theorem OD (a b:Nd) (ha:XK a) (hb:XK b):ah Tryz.prog 132 [au a,au b] [] (.int .i64 (TM a b)) []:=by
 refine UI.pure (T:=aQ Tryz.prog [(167,EW)]) 0 hD (aj (af Rh ai)) aV (by decide) ?_
 (conv=>arg 4;cbv);simp(maxSteps:=400000)only[↓aB,aC,BEq.rfl,reduceIte,reduceCtorEq,Nat.reduceLT,reduceAdd,reduceSub,reduceMul,Nat.reduceBEq,reduceLeDiff,Int.reduceToNat,Int.reduceLE]
 refine aR _ (Weak.freeze 1 0 (Nat.le_refl _) _) ?_
 simp(maxSteps:=400000)only[↓aB,aC,BEq.rfl,reduceIte,reduceCtorEq,Nat.reduceLT,reduceAdd,reduceSub,reduceMul,Nat.reduceBEq,reduceLeDiff,Int.reduceToNat,Int.reduceLE,Xg,Xh,↓EW]
 cases hx:a.neg <;> cases hy:b.neg
 all_goals simp only [ZW,TM,hx,hy,Bool.not_true,Bool.not_false,reduceIte,Bool.and_true,Bool.and_false,Bool.and_self,Bool.false_eq_true,ha,hb]
 all_goals exact ⟨trivial,trivial,trivial⟩
def xg:dN:=fun args objs K=>match args with
 | [a0,a1]=>gZ au a0 (HK.mk:HK fun a=>gZ au a1 (HK.mk:HK fun b=>(XK a)∧(XK b)∧K (.int .i64 (TM a b)) objs 0))
 | _=>False
theorem Ll:aF Tryz.prog 132 (xg):=by
 intro args objs K h
 unfold xg at h
 split at h
 · rename_i a0 a1
   obtain ⟨a,rfl,b,rfl,h1,h2,hk⟩:=h
   exact ⟨_,_,_,.pure _ rfl (OD a b h1 h2),hk⟩
 · exact h.elim
end Lp
namespace Lp
open Go Go.Proofs
theorem OE (v:Vl) (hl:v.length≤1099511627776) (ho:One v):ah Tryz.prog 137 [aD v] [] (dK (eF v)) []:=by
 cases v with
 | nil=>exact absurd rfl ho.ne
 | cons n r=>
  obtain ⟨hm,ps,h1,_,_⟩:=ho.parts
  have:=QF (n::r) n r ps rfl hl hm h1
  rw [eF,dK,(gD h1).1,List.map_map]
  exact this
theorem OG (v:Vl) (hl:v.length≤1099511627776) (ho:One v):ah Tryz.prog 135 [aD v] [] (cZ (fF v)) []:=by
 cases v with
 | nil=>exact absurd rfl ho.ne
 | cons n r=>
  obtain ⟨hm,ps,h1,_,_⟩:=ho.parts
  have:=QG (n::r) n r ps rfl hl hm h1
  rw [Ki] at this
  rw [fF,cZ,(gD h1).2]
  exact this
def Be:dN:=fun args objs K=>match args with
 | [a0]=>gZ aD a0 (HK.mk:HK fun v=>(v.length≤1099511627776)∧(One v)∧K (dK (eF v)) objs 0)
 | _=>False
theorem OH:aF Tryz.prog 137 (Be):=by
 intro args objs K h
 unfold Be at h
 split at h
 · rename_i a0
   obtain ⟨v,rfl,h1,h2,hk⟩:=h
   exact ⟨_,_,_,.pure _ rfl (OE v h1 h2),hk⟩
 · exact h.elim
def Bf:dN:=fun args objs K=>match args with
 | [a0]=>gZ aD a0 (HK.mk:HK fun v=>(v.length≤1099511627776)∧(One v)∧K (cZ (fF v)) objs 0)
 | _=>False
theorem OI:aF Tryz.prog 135 (Bf):=by
 intro args objs K h
 unfold Bf at h
 split at h
 · rename_i a0
   obtain ⟨v,rfl,h1,h2,hk⟩:=h
   exact ⟨_,_,_,.pure _ rfl (OG v h1 h2),hk⟩
 · exact h.elim
end Lp
namespace Lp
open Go Go.Proofs
def Lm:dN:=fun args objs K=>match args with
 | [a0,a1]=>gZ cZ a0 (HK.mk:HK fun a=>gZ cZ a1 (HK.mk:HK fun b=>(a.length≤9223372036854775807)∧(b.length≤9223372036854775807)∧K (.int .i64 (eD jk a b)) objs 0))
 | _=>False
theorem Vh:aF Tryz.prog 134 (Lm):=by
 intro args objs K h
 unfold Lm at h
 split at h
 · rename_i a0 a1
   obtain ⟨a,rfl,b,rfl,h1,h2,hk⟩:=h
   exact ⟨_,_,_,.pure _ rfl (zm a b h1 h2),hk⟩
 · exact h.elim
def Tq (f:Nat):dN:=fun args objs K=>match args with
 | [a0,a1,a2]=>gZ dK a0 (HK.mk:HK fun x=>gZ dK a1 (HK.mk:HK fun y=>a2=(.fn 107 [] [])∧(x.length≤9223372036854775807)∧(∀ p ∈ x,∀ q ∈ y,ah Tryz.prog 107 [aD p,aD q] [] (.int .i64 (qY f p q)) [])∧K (.int .i64 (eD (qY f) x y)) objs 0))
 | _=>False
theorem XL (f:Nat):aF Tryz.prog 136 (Tq f):=by
 intro args objs K h
 unfold Tq at h
 split at h
 · rename_i a0 a1 a2
   obtain ⟨x,rfl,y,rfl,rfl,h1,h2,hk⟩:=h
   exact ⟨_,_,_,.pure _ rfl (tT x y _ _ h1 h2),hk⟩
 · exact h.elim
structure Ok (v:Vl):Prop where
 one:One v
 len:v.length≤1099511627776
 all:∀ n ∈ v,XK n
theorem Ok.parts {v:Vl}(h:Ok v):(eF v).length≤1099511627776∧(fF v).length≤1099511627776∧∀ p ∈ eF v,Ok p∧p.length+1≤v.length:=by
 cases v with
 | nil=>exact absurd rfl h.one.ne
 | cons n r=>
  obtain ⟨hm,ps,h1,h2,h3⟩:=h.one.parts
  have hpl:=gu _ _ _ h1
  have hpn:=bP _ _ _ h1
  have hlen:=h.len
  simp only [List.length_cons] at hlen
  refine ⟨?_,?_,?_⟩
  · rw [eF,(gD h1).1,List.length_map];omega
  · rw [fF];split
    · rw [(gD h1).2,List.length_map];omega
    · simp
  · intro p hp
    rw [eF,(gD h1).1] at hp
    obtain ⟨q,hq,rfl⟩:=List.mem_map.1 hp
    have VW:=kN hq
    rw [h2] at VW
    refine ⟨⟨(h3 q hq).ji,by rw [fo];omega,?_⟩,by rw [fo,List.length_cons];omega⟩
    have hin:∀ x ∈ q,XK x:=fun x hx=>h.all x (List.mem_cons_of_mem _ (by rw [← h2];exact List.mem_flatten.2 ⟨q,hq,hx⟩))
    intro x hx
    cases q with
    | nil=>cases hx
    | cons m s=>
     rcases List.mem_cons.1 hx with rfl | hx
     · exact hin m (List.mem_cons_self ..)
     · exact hin x (List.mem_cons_of_mem _ hx)
theorem yu:∀ (f:Nat) (a b:Vl),a.length≤f→Ok a→Ok b→ah Tryz.prog 107 [aD a,aD b] [] (.int .i64 (qY f a b)) []
 | 0,a,b,h,ha,_=>by have:=ha.one.ne;cases a <;> simp at h this
 | f+1,[],b,_,ha,_=>absurd rfl ha.one.ne
 | f+1,n::r,[],_,_,hb=>absurd rfl hb.one.ne
 | f+1,n::r,m::q,h,ha,hb=>by
  have hpa:=ha.parts
  have hpb:=hb.parts
  have ih:∀ p ∈ eF (n::r),∀ p' ∈ eF (m::q),ah Tryz.prog 107 [aD p,aD p'] [] (.int .i64 (qY f p p')) []:=
   fun p hp p' hp'=>yu f p p' (by have:=(hpa.2.2 p hp).2;omega) (hpa.2.2 p hp).1 (hpb.2.2 p' hp').1
  refine NC.pure (T:=aQ Tryz.prog [(131,w9),(132,xg),(133,w_),(134,Lm),(135,Bf),(137,Be),(136,(Tq f))]) 0 hD (aj (af Gp (af Ll (af Gq (af Vh (af OI (af OH (af (XL f) ai)))))))) aV (by decide) ?_
  (conv=>arg 4;cbv);simp(maxSteps:=400000)only[↓aB,aC,BEq.rfl,reduceIte,reduceCtorEq,Nat.reduceLT,Nat.reduceAdd,Nat.reduceSub,Nat.reduceMul,Nat.reduceBEq,Nat.reduceLeDiff,Int.reduceToNat,Int.reduceLE,↓w9,↓xg,↓w_,↓Lm,↓Bf,↓Be,↓Tq]
  have e1:XK n:=ha.all n (List.mem_cons_self ..)
  have e2:XK m:=hb.all m (List.mem_cons_self ..)
  have l1:r.length≤1099511627775:=by have:=ha.len;simp only [List.length_cons] at this;omega
  have l2:q.length≤1099511627775:=by have:=hb.len;simp only [List.length_cons] at this;omega
  have l3:(eF (n::r)).length≤9223372036854775807:=by have:=hpa.1;omega
  have l4:(fF (n::r)).length≤9223372036854775807:=by have:=hpa.2.1;omega
  have l5:(fF (m::q)).length≤9223372036854775807:=by have:=hpb.2.1;omega
  refine ⟨fun hk=>?_,fun hk=>?_⟩
  · have hk:n.kind=m.kind:=(oV.zero _ _ trivial trivial).1 hk
    have k0:¬ (n.kind≠m.kind):=fun h=>h hk
    refine ⟨fun h3=>⟨e1,e2,?_⟩,fun h3=>⟨fun h4=>?_,fun h4=>⟨fun h6=>⟨l1,ha.one,l2,hb.one,l4,l5,fun hl=>⟨l1,ha.one,l2,hb.one,l3,ih,?_⟩,fun hl=>?_⟩,fun h6=>⟨fun h5=>⟨l1,ha.one,l2,hb.one,l3,ih,?_⟩,fun h5=>?_⟩⟩⟩⟩
    · simp only [qY,jl,if_neg k0,if_pos h3]
    · simp only [qY,jl,if_neg k0,if_neg h3,if_pos h4]
    · have h5:¬ n.kind=5:=by omega
      have h6':m.kind=6:=by omega
      simp only [fF,if_pos h6,if_pos h6'] at hl
      simp only [qY,jl,if_neg k0,if_neg h3,if_neg h4,if_neg h5,if_pos h6,if_pos hl,eF]
    · have h5:¬ n.kind=5:=by omega
      have h6':m.kind=6:=by omega
      simp only [fF,if_pos h6,if_pos h6'] at hl ⊢
      simp only [qY,jl,if_neg k0,if_neg h3,if_neg h4,if_neg h5,if_pos h6,if_neg hl]
    · simp only [qY,jl,if_neg k0,if_neg h3,if_neg h4,if_pos h5,eF]
    · simp only [qY,jl,if_neg k0,if_neg h3,if_neg h4,if_neg h5,if_neg h6]
  · have hk':n.kind≠m.kind:=fun h=>hk ((oV.zero _ _ trivial trivial).2 h)
    simp only [qY,jl,if_pos hk']
def xh (f:Nat):dN:=fun args objs K=>match args with
 | [a0,a1]=>gZ aD a0 (HK.mk:HK fun a=>gZ aD a1 (HK.mk:HK fun b=>(a.length≤f)∧(Ok a)∧(Ok b)∧K (.int .i64 (qY f a b)) objs 0))
 | _=>False
theorem Lr (f:Nat):aF Tryz.prog 107 (xh f):=by
 intro args objs K h
 unfold xh at h
 split at h
 · rename_i a0 a1
   obtain ⟨a,rfl,b,rfl,h1,h2,h3,hk⟩:=h
   exact ⟨_,_,_,.pure _ rfl (yu f a b h1 h2 h3),hk⟩
 · exact h.elim
end Lp
namespace Lp
open Go Go.Proofs
open Nat (lt_or_ge reduceAdd reduceLeDiff reduceMul reduceSub)
open Int (reduceLE reduceToNat)
def DT (a b:Bool):Int:=if b then 0 else if a then -1 else 1
theorem Vi (a b:Bool):ah Tryz.prog 91 [.bool a,.bool b] [] (.int .i64 (DT a b)) []:=by
 refine Al.bg (T:=aQ Tryz.prog []) 0 hD (aj ai) aV (by decide) fun Q hQ=>?_
 cases a <;> cases b
 all_goals (conv=>arg 4;cbv);simp(maxSteps:=400000)only[↓aB,aC,BEq.rfl,reduceIte,reduceCtorEq,Nat.reduceLT,reduceAdd,reduceSub,reduceMul,Nat.reduceBEq,reduceLeDiff,reduceToNat,reduceLE,hQ,DT]
def fZ:dN:=fun args objs K=>match args with
 | [.bool a,.bool b]=>K (.int .i64 (DT a b)) objs 0
 | _=>False
theorem zq:aF Tryz.prog 91 (fZ):=by
 intro args objs K h
 unfold fZ at h
 split at h
 · rename_i a b
   have hk:=h
   exact ⟨_,_,_,.pure _ rfl (Vi a b),hk⟩
 · exact h.elim
theorem JX {α:Type}(f:α→α→Int) (a b:List α) (h:a=[]∨b=[]):eD f a b=DT (decide ((a.length:Int)<b.length)) (decide ((a.length:Int)=b.length)):=by
 rcases h with rfl | rfl
 · cases b with
   | nil=>rfl
   | cons y ys=>
    have h1:decide ((([]:List α).length:Int)<((y::ys).length:Int))=true:=by simp <;> omega
    have h2:decide ((([]:List α).length:Int)=((y::ys).length:Int))=false:=by simp <;> omega
    rw [h1,h2];rfl
 · cases a with
   | nil=>rfl
   | cons y ys=>
    have h1:decide (((y::ys).length:Int)<(([]:List α).length:Int))=false:=by simp <;> omega
    have h2:decide (((y::ys).length:Int)=(([]:List α).length:Int))=false:=by simp <;> omega
    rw [h1,h2];rfl
theorem II (a b:List (List UInt8)) (ha:a.length≤1000000) (hb:b.length≤1000000):ah Tryz.prog 94 [cZ a,cZ b] [] (.int .i64 (eD jk a b)) []:=by
 refine yP.bg (T:=aQ Tryz.prog [(91,fZ)]) 0 hD (aj (af zq ai)) aV (by decide) fun Q hQ=>?_
 (conv=>arg 4;cbv);simp(maxSteps:=400000)only[↓aB,aC,BEq.rfl,reduceIte,reduceCtorEq,Nat.reduceLT,reduceAdd,reduceSub,reduceMul,Nat.reduceBEq,reduceLeDiff,reduceToNat,reduceLE,hQ]
 refine aA (fun m S=>∃ i:Nat,i+m=a.length∧i≤b.length∧eD jk (a.drop i) (b.drop i)=eD jk a b∧S=⟨dh 48 [(0,cZ a),(1,cZ b),(5,.int .i64 i)],[]⟩) a.length ⟨0,by omega,by omega,rfl,?_⟩ ?_
 · simp only [bJ,keepR,reduceAdd,kU,Nat.reduceBEq,List.map_nil]
   rfl
 rintro m S ⟨i,him,hib,hlx,rfl⟩
 have zi:(0≤(i:Int))=True:=eq_true (by omega)
 have fin:a.length≤i∨b.length≤i→eD jk a b=DT (decide ((a.length:Int)<b.length)) (decide ((a.length:Int)=b.length)):=by
  intro h
  rw [← hlx,JX]
  · simp only [List.length_drop]
    congr 1
    · exact decide_eq_decide.2 (by omega)
    · exact decide_eq_decide.2 (by omega)
  · rcases h with h | h
    · exact .inl (List.drop_eq_nil_of_le h)
    · exact .inr (List.drop_eq_nil_of_le h)
 rcases lt_or_ge i a.length with h | h
 rotate_left 1
 · have hlt:((i:Int)<(a.length:Int))=False:=eq_false (by omega)
   simp(maxSteps:=400000)only[↓aB,aC,BEq.rfl,reduceIte,reduceCtorEq,Nat.reduceLT,reduceAdd,reduceSub,reduceMul,Nat.reduceBEq,reduceLeDiff,reduceToNat,reduceLE,hQ,hlt,↓fZ]
   rw [fin (.inl h)]
 have hlt:((i:Int)<(a.length:Int))=True:=eq_true (by omega)
 rcases lt_or_ge i b.length with h' | h'
 rotate_left 1
 · have hlt2:((i:Int)<(b.length:Int))=False:=eq_false (by omega)
   simp(maxSteps:=400000)only[↓aB,aC,BEq.rfl,reduceIte,reduceCtorEq,Nat.reduceLT,reduceAdd,reduceSub,reduceMul,Nat.reduceBEq,reduceLeDiff,reduceToNat,reduceLE,hQ,hlt,hlt2,↓fZ]
   rw [fin (.inr h')]
 have hlt2:((i:Int)<(b.length:Int))=True:=eq_true (by omega)
 have ga:=List.getElem?_eq_getElem h
 have gb:=List.getElem?_eq_getElem h'
 have da:=List.drop_eq_getElem_cons h
 have db:=List.drop_eq_getElem_cons h'
 generalize a[i]=x at ga da
 generalize b[i]=y at gb db
 rw [da,db,eD] at hlx
 by_cases hxy:x=y
 · subst hxy
   rw [if_pos ((BU.zero _ _ trivial trivial).2 rfl)] at hlx
   simp(maxSteps:=400000)only[↓aB,aC,BEq.rfl,reduceIte,reduceCtorEq,Nat.reduceLT,reduceAdd,reduceSub,reduceMul,Nat.reduceBEq,reduceLeDiff,reduceToNat,reduceLE,hQ,hlt,hlt2,zi,ga,gb,↓fZ]
   exact ⟨⟨by omega,by omega⟩,m-1,by omega,i+1,by omega,by omega,hlx,by simp⟩
 · have hne:jk x y≠0:=fun h=>hxy ((BU.zero _ _ trivial trivial).1 h)
   rw [if_neg hne] at hlx
   simp(maxSteps:=400000)only[↓aB,aC,BEq.rfl,reduceIte,reduceCtorEq,Nat.reduceLT,reduceAdd,reduceSub,reduceMul,Nat.reduceBEq,reduceLeDiff,reduceToNat,reduceLE,hQ,hlt,hlt2,zi,ga,gb,hxy,↓fZ]
   rw [← hlx]
   rcases jL x y with ⟨h1,e1⟩ | ⟨h1,_⟩ | ⟨h1,e1⟩
   · rw [e1,h1];rfl
   · exact absurd h1 hxy
   · rw [e1,kH _ _ h1];rfl
def qF:dN:=fun args objs K=>match args with
 | [a0,a1]=>gZ cZ a0 (HK.mk:HK fun a=>gZ cZ a1 (HK.mk:HK fun b=>(a.length≤1000000)∧(b.length≤1000000)∧K (.int .i64 (eD jk a b)) objs 0))
 | _=>False
theorem Gr:aF Tryz.prog 94 (qF):=by
 intro args objs K h
 unfold qF at h
 split at h
 · rename_i a0 a1
   obtain ⟨a,rfl,b,rfl,h1,h2,hk⟩:=h
   exact ⟨_,_,_,.pure _ rfl (II a b h1 h2),hk⟩
 · exact h.elim
def Bg (f:Vl→Vl→Int):dN:=fun args objs K=>match args with
 | [a0,a1]=>gZ aD a0 (HK.mk:HK fun p=>gZ aD a1 (HK.mk:HK fun q=>(ah Tryz.prog 67 [aD p,aD q] [] (.int .i64 (f p q)) [])∧K (.int .i64 (f p q)) objs 0))
 | _=>False
theorem Ri (f:Vl→Vl→Int):aF Tryz.prog 67 (Bg f):=by
 intro args objs K h
 unfold Bg at h
 split at h
 · rename_i a0 a1
   obtain ⟨p,rfl,q,rfl,h1,hk⟩:=h
   exact ⟨_,_,_,.pure _ rfl (h1),hk⟩
 · exact h.elim
theorem Ls (f:Vl→Vl→Int) (a b:List Vl) (ha:a.length≤1000000) (hb:b.length≤1000000) (hf:∀ p ∈ a,∀ q ∈ b,ah Tryz.prog 67 [aD p,aD q] [] (.int .i64 (f p q)) []):ah Tryz.prog 93 [dK a,dK b] [] (.int .i64 (eD f a b)) []:=by
 refine Am.bg (T:=aQ Tryz.prog [(67,(Bg f)),(91,fZ)]) 0 hD (aj (af (Ri f) (af zq ai))) aV (by decide) fun Q hQ=>?_
 (conv=>arg 4;cbv);simp(maxSteps:=400000)only[↓aB,aC,BEq.rfl,reduceIte,reduceCtorEq,Nat.reduceLT,reduceAdd,reduceSub,reduceMul,Nat.reduceBEq,reduceLeDiff,reduceToNat,reduceLE,hQ]
 refine aA (fun m S=>∃ i:Nat,i+m=a.length∧i≤b.length∧eD f (a.drop i) (b.drop i)=eD f a b∧S=⟨dh 42 [(0,dK a),(1,dK b),(5,.int .i64 i)],[]⟩) a.length ⟨0,by omega,by omega,rfl,?_⟩ ?_
 · simp only [bJ,keepR,reduceAdd,kU,Nat.reduceBEq,List.map_nil]
   rfl
 rintro m S ⟨i,him,hib,hlx,rfl⟩
 have zi:(0≤(i:Int))=True:=eq_true (by omega)
 have fin:a.length≤i∨b.length≤i→eD f a b=DT (decide ((a.length:Int)<b.length)) (decide ((a.length:Int)=b.length)):=by
  intro h
  rw [← hlx,JX]
  · simp only [List.length_drop]
    congr 1
    · exact decide_eq_decide.2 (by omega)
    · exact decide_eq_decide.2 (by omega)
  · rcases h with h | h
    · exact .inl (List.drop_eq_nil_of_le h)
    · exact .inr (List.drop_eq_nil_of_le h)
 rcases lt_or_ge i a.length with h | h
 rotate_left 1
 · have hlt:((i:Int)<(a.length:Int))=False:=eq_false (by omega)
   simp(maxSteps:=400000)only[↓aB,aC,BEq.rfl,reduceIte,reduceCtorEq,Nat.reduceLT,reduceAdd,reduceSub,reduceMul,Nat.reduceBEq,reduceLeDiff,reduceToNat,reduceLE,hQ,hlt,↓fZ]
   rw [fin (.inl h)]
 have hlt:((i:Int)<(a.length:Int))=True:=eq_true (by omega)
 rcases lt_or_ge i b.length with h' | h'
 rotate_left 1
 · have hlt2:((i:Int)<(b.length:Int))=False:=eq_false (by omega)
   simp(maxSteps:=400000)only[↓aB,aC,BEq.rfl,reduceIte,reduceCtorEq,Nat.reduceLT,reduceAdd,reduceSub,reduceMul,Nat.reduceBEq,reduceLeDiff,reduceToNat,reduceLE,hQ,hlt,hlt2,↓fZ]
   rw [fin (.inr h')]
 have hlt2:((i:Int)<(b.length:Int))=True:=eq_true (by omega)
 have ga:=List.getElem?_eq_getElem h
 have gb:=List.getElem?_eq_getElem h'
 have da:=List.drop_eq_getElem_cons h
 have db:=List.drop_eq_getElem_cons h'
 have hfx:=hf _ (List.getElem_mem h) _ (List.getElem_mem h')
 generalize a[i]=x at ga da hfx
 generalize b[i]=y at gb db hfx
 rw [da,db,eD] at hlx
 by_cases hxy:f x y=0
 · rw [if_pos hxy] at hlx
   simp(maxSteps:=400000)only[↓aB,aC,BEq.rfl,reduceIte,reduceCtorEq,Nat.reduceLT,reduceAdd,reduceSub,reduceMul,Nat.reduceBEq,reduceLeDiff,reduceToNat,reduceLE,hQ,hlt,hlt2,zi,ga,gb,hxy,↓fZ,↓Bg]
   exact ⟨by rw [← hxy];exact hfx,⟨by omega,by omega⟩,m-1,by omega,i+1,by omega,by omega,hlx,by simp⟩
 · rw [if_neg hxy] at hlx
   simp(maxSteps:=400000)only[↓aB,aC,BEq.rfl,reduceIte,reduceCtorEq,Nat.reduceLT,reduceAdd,reduceSub,reduceMul,Nat.reduceBEq,reduceLeDiff,reduceToNat,reduceLE,hQ,hlt,hlt2,zi,ga,gb,hxy,↓fZ,↓Bg]
   exact ⟨hfx,by rw [hlx]⟩
end Lp
namespace Lp
open Go Go.Proofs
open Nat (reduceAdd reduceLeDiff reduceMul reduceSub)
open Int (reduceEq reduceLE reduceToNat)
structure Ok2 (v:Vl):Prop where
 one:One v
 len:v.length≤1000000
 all:∀ n ∈ v,n.kind=3→Bd n
theorem Ok2.parts {v:Vl}(h:Ok2 v):(eF v).length≤1000000∧(fF v).length≤1000000∧∀ p ∈ eF v,Ok2 p∧p.length+1≤v.length:=by
 cases v with
 | nil=>exact absurd rfl h.one.ne
 | cons n r=>
  obtain ⟨hm,ps,h1,h2,h3⟩:=h.one.parts
  have hpl:=gu _ _ _ h1
  have hpn:=bP _ _ _ h1
  have hlen:=h.len
  simp only [List.length_cons] at hlen
  refine ⟨?_,?_,?_⟩
  · rw [eF,(gD h1).1,List.length_map];omega
  · rw [fF];split
    · rw [(gD h1).2,List.length_map];omega
    · simp
  · intro p hp
    rw [eF,(gD h1).1] at hp
    obtain ⟨q,hq,rfl⟩:=List.mem_map.1 hp
    have VW:=kN hq
    rw [h2] at VW
    refine ⟨⟨(h3 q hq).ji,by rw [fo];omega,?_⟩,by rw [fo,List.length_cons];omega⟩
    have hin:∀ x ∈ q,x.kind=3→Bd x:=fun x hx=>h.all x (List.mem_cons_of_mem _ (by rw [← h2];exact List.mem_flatten.2 ⟨q,hq,hx⟩))
    intro x hx
    cases q with
    | nil=>cases hx
    | cons m s=>
     rcases List.mem_cons.1 hx with rfl | hx
     · intro hk
       have:=hin m (List.mem_cons_self ..) hk
       exact ⟨this.len,this.fM,this.lo,this.hi⟩
     · exact hin x (List.mem_cons_of_mem _ hx)
def Bh (f:Vl→Vl→Int):dN:=fun args objs K=>match args with
 | [a0,a1]=>gZ dK a0 (HK.mk:HK fun x=>gZ dK a1 (HK.mk:HK fun y=>(x.length≤1000000)∧(y.length≤1000000)∧(∀ p ∈ x,∀ q ∈ y,ah Tryz.prog 67 [aD p,aD q] [] (.int .i64 (f p q)) [])∧K (.int .i64 (eD f x y)) objs 0))
 | _=>False
theorem Rj (f:Vl→Vl→Int):aF Tryz.prog 93 (Bh f):=by
 intro args objs K h
 unfold Bh at h
 split at h
 · rename_i a0 a1
   obtain ⟨x,rfl,y,rfl,h1,h2,h3,hk⟩:=h
   exact ⟨_,_,_,.pure _ rfl (Ls f x y h1 h2 h3),hk⟩
 · exact h.elim
theorem Gs {a b a' b':Nd}(h1:∀ p,yt a p=yt a' p) (h2:∀ p,yt b p=yt b' p):∀ (k:Nat) (p:Int),l8 a b k p=l8 a' b' k p
 | 0,_=>rfl
 | k+1,p=>by simp only [l8,h1,h2,Gs h1 h2 k]
theorem Rk (n m:Nd) (k l:Int) (x y:List UInt8):kV { n with kind:=k,name:=x } { m with kind:=l,name:=y }=kV n m:=by
 have hd:∀ (j:Nat) (p:Int),l8 { n with kind:=k,name:=x } { m with kind:=l,name:=y } j p=l8 n m j p:=Gs (fun _=>rfl) (fun _=>rfl)
 simp only [kV,hd]
 rfl
theorem Bj:∀ (f:Nat) (a b:Vl),a.length≤f→Ok2 a→Ok2 b→ah Tryz.prog 67 [aD a,aD b] [] (.int .i64 (jl kV f a b)) []
 | 0,a,b,h,ha,_=>by have:=ha.one.ne;cases a <;> simp at h this
 | f+1,[],b,_,ha,_=>absurd rfl ha.one.ne
 | f+1,n::r,[],_,_,hb=>absurd rfl hb.one.ne
 | f+1,n::r,m::q,h,ha,hb=>by
  have hpa:=ha.parts
  have hpb:=hb.parts
  have ih:∀ p ∈ eF (n::r),∀ p' ∈ eF (m::q),ah Tryz.prog 67 [aD p,aD p'] [] (.int .i64 (jl kV f p p')) []:=
   fun p hp p' hp'=>Bj f p p' (by have:=(hpa.2.2 p hp).2;omega) (hpa.2.2 p hp).1 (hpb.2.2 p' hp').1
  have l1:=ha.len
  have l2:=hb.len
  have o1:=ha.one
  have o2:=hb.one
  generalize hA:n::r=A at *
  generalize hB:m::q=B at *
  have ga:A[0]?=some n:=by rw [← hA];rfl
  have gb:B[0]?=some m:=by rw [← hB];rfl
  have na:=ha.all n (by rw [← hA];exact List.mem_cons_self ..)
  have nb:=hb.all m (by rw [← hB];exact List.mem_cons_self ..)
  have pA:eF A=partsOf n r:=by rw [← hA];rfl
  have pB:eF B=partsOf m q:=by rw [← hB];rfl
  have sA:fF A=if n.kind=6 then sM n r else []:=by rw [← hA];rfl
  have sB:fF B=if m.kind=6 then sM m q else []:=by rw [← hB];rfl
  have res:jl kV (f+1) A B=jl kV (f+1) (n::r) (m::q):=by rw [hA,hB]
  refine Cy.bg (T:=aQ Tryz.prog [(91,fZ),(92,wZ),(38,nT),(90,nA),(94,qF),(93,(Bh (jl kV f)))]) 0 hD (aj (af zq (af Lg (af Gf (af CS (af Gr (af (Rj (jl kV f)) ai))))))) aV (by decide) fun Q hQ=>?_
  by_cases hk:n.kind=m.kind
  rotate_left 1
  · (conv=>arg 4;cbv);simp(maxSteps:=400000)only[↓aB,aC,BEq.rfl,reduceIte,reduceCtorEq,Nat.reduceLT,reduceAdd,reduceSub,reduceMul,Nat.reduceBEq,reduceLeDiff,reduceToNat,reduceLE,hQ,ga,gb,hk,↓fZ]
    have:jl kV (f+1) A B=DT (decide (n.kind<m.kind)) false:=by
     rw [res]
     simp only [jl,ne_eq,hk,not_false_eq_true,if_true,sK,DT,decide_eq_true_eq,Bool.false_eq_true,if_false]
     split
     · rfl
     · rw [if_pos (by omega)]
    rw [this]
  by_cases h3:n.kind=3
  · have h3':m.kind=3:=by omega
    have e3:jl kV (f+1) A B=kV n m:=by
     rw [res];simp [jl,hk,h3']
    (conv=>arg 4;cbv);simp(maxSteps:=400000)only[↓aB,aC,BEq.rfl,reduceIte,reduceCtorEq,Nat.reduceLT,reduceAdd,reduceSub,reduceMul,Nat.reduceBEq,reduceLeDiff,reduceToNat,reduceLE,hQ,ga,gb,h3,h3',↓fZ,↓wZ,reduceEq,bA,bB]
    refine ⟨by decide,?_,?_,?_⟩
    · have:=na h3;exact ⟨this.len,this.fM,this.lo,this.hi⟩
    · have:=nb h3';exact ⟨this.len,this.fM,this.lo,this.hi⟩
    · rw [e3];exact congrArg _ (Rk n m 3 3 [] []).symm
  by_cases h4:n.kind=4
  · have h4':m.kind=4:=by omega
    (conv=>arg 4;cbv);simp(maxSteps:=400000)only[↓aB,aC,BEq.rfl,reduceIte,reduceCtorEq,Nat.reduceLT,reduceAdd,reduceSub,reduceMul,Nat.reduceBEq,reduceLeDiff,reduceToNat,reduceLE,hQ,ga,gb,h4,h4',↓fZ,reduceEq]
    have e4:jl kV (f+1) A B=jk n.s m.s:=by
     rw [res];simp [jl,hk,h4']
    rw [e4]
    rcases jL n.s m.s with ⟨g1,e1⟩ | ⟨g1,e1⟩ | ⟨g1,e1⟩
    · have:n.s≠m.s:=fun hh=>by rw [hh,dI] at g1;cases g1
      rw [e1,g1,decide_eq_false this];rfl
    · rw [e1,decide_eq_true g1];rfl
    · have:n.s≠m.s:=fun hh=>by rw [hh,dI] at g1;cases g1
      rw [e1,decide_eq_false this,kH _ _ g1];rfl
  by_cases h5:n.kind=5
  · have h5':m.kind=5:=by omega
    (conv=>arg 4;cbv);simp(maxSteps:=400000)only[↓aB,aC,BEq.rfl,reduceIte,reduceCtorEq,Nat.reduceLT,reduceAdd,reduceSub,reduceMul,Nat.reduceBEq,reduceLeDiff,reduceToNat,reduceLE,hQ,ga,gb,h5,h5',↓fZ,reduceEq,↓nT,↓Bh]
    have e5:jl kV (f+1) A B=eD (jl kV f) (eF A) (eF B):=by
     rw [res,pA,pB];simp [jl,hk,h5']
    exact ⟨o1,l1,o2,l2,hpa.1,hpb.1,ih,by rw [e5]⟩
  by_cases h6:n.kind=6
  · have h6':m.kind=6:=by omega
    (conv=>arg 4;cbv);simp(maxSteps:=400000)only[↓aB,aC,BEq.rfl,reduceIte,reduceCtorEq,Nat.reduceLT,reduceAdd,reduceSub,reduceMul,Nat.reduceBEq,reduceLeDiff,reduceToNat,reduceLE,hQ,ga,gb,h6,h6',↓fZ,reduceEq,↓nT,↓Bh,↓nA,↓qF]
    have e6:jl kV (f+1) A B=if eD jk (fF A) (fF B)=0 then eD (jl kV f) (eF A) (eF B) else eD jk (fF A) (fF B):=by
     rw [res,pA,pB,sA,sB,if_pos h6,if_pos h6'];simp [jl,hk,h6']
    refine ⟨o1,l1,o2,l2,hpa.2.1,hpb.2.1,fun hz=>⟨o1,l1,o2,l2,hpa.1,hpb.1,ih,?_⟩,fun hz=>?_⟩
    · rw [e6,if_pos hz]
    · rw [e6,if_neg hz]
  · have e0:jl kV (f+1) A B=0:=by
     rw [res];simp only [jl,hk,ne_eq,not_true_eq_false,if_false,hk ▸ h3,hk ▸ h4,hk ▸ h5,hk ▸ h6]
    (conv=>arg 4;cbv);simp(maxSteps:=400000)only[↓aB,aC,BEq.rfl,reduceIte,reduceCtorEq,Nat.reduceLT,reduceAdd,reduceSub,reduceMul,Nat.reduceBEq,reduceLeDiff,reduceToNat,reduceLE,hQ,ga,gb,hk ▸ h3,hk ▸ h4,hk ▸ h5,hk ▸ h6,hk,↓fZ,e0]
def EX (f:Nat):dN:=fun args objs K=>match args with
 | [a0,a1]=>gZ aD a0 (HK.mk:HK fun a=>gZ aD a1 (HK.mk:HK fun b=>(a.length≤f)∧(Ok2 a)∧(Ok2 b)∧K (.int .i64 (jl kV f a b)) objs 0))
 | _=>False
theorem Rl (f:Nat):aF Tryz.prog 67 (EX f):=by
 intro args objs K h
 unfold EX at h
 split at h
 · rename_i a0 a1
   obtain ⟨a,rfl,b,rfl,h1,h2,h3,hk⟩:=h
   exact ⟨_,_,_,.pure _ rfl (Bj f a b h1 h2 h3),hk⟩
 · exact h.elim
end Lp
namespace Lp
open Go
theorem Lu {v:Vl}(h:dH v=true):∀ n ∈ v,bE n=true:=by
 have hg:=(wG h).good
 intro n hn
 obtain ⟨i,hi,rfl⟩:=List.getElem_of_mem hn
 exact (hg i v[i] (v.drop (i+1)) (List.drop_eq_getElem_cons hi)).1
theorem pY {n:Nd}(h:bE n=true) (hk:n.kind=3):qX n=true:=by
 rw [bE,if_neg (by omega),if_pos hk] at h
 exact h
theorem Tt {n:Nd}(h:qX n=true):Bd n:=by
 have:=(nS n).1 h
 exact ⟨by omega,this.2.1,by omega,by omega⟩
theorem Vj {n:Nd}(h:bE n=true) (hs:n.s.length≤1000000):XK n:=by
 refine ⟨hs,?_⟩
 by_cases h3:n.kind=3
 · have:=Tt (pY h h3)
   exact ⟨this.lo,this.hi⟩
 · have he:n.e=0:=by
    unfold bE at h
    split at h
    · simp only [Bool.and_eq_true,beq_iff_eq] at h;exact h.2
    · split at h
      · simp only [Bool.and_eq_true,beq_iff_eq] at h;exact h.2
      · split at h
        · simp only [Bool.and_eq_true,beq_iff_eq] at h;exact h.2
        · cases h
   omega
structure aci (v:Vl) (k:Nat):Prop where
 len:v.length≤k
 rt:Rt v
 ok:Ok v
 ok2:Ok2 v
end Lp
namespace Lp
open Go
open List (drop_eq_nil_of_le)
def r_:List UInt8→List UInt8→Int
 | [],[]=>0
 | [],y::ys=>if 48<y.toNat then -1 else r_ [] ys
 | x::xs,[]=>if 48<x.toNat then 1 else r_ xs []
 | x::xs,y::ys=>if x.toNat<y.toNat then -1 else if y.toNat<x.toNat then 1 else r_ xs ys
theorem OJ {s:List UInt8}(h:fM s=true):∀ c ∈ s,48≤c.toNat∧c.toNat≤57:=by
 intro c hc
 obtain ⟨i,hi,rfl⟩:=List.getElem_of_mem hc
 exact pX h (List.getElem?_eq_getElem hi)
theorem Lv (n:Nd) (i:Nat):yt n ((n.s.length:Int)+n.e-1-i)=match n.s[i]? with | some c=>(c.toNat:Int)-48 | none=>0:=by
 have e:(n.s.length:Int)-1-((n.s.length:Int)+n.e-1-i-n.e)=i:=by omega
 simp only [yt,e]
 rw [if_neg (by omega),Int.toNat_natCast]
 try rfl
theorem OL (a b:Nd) (ha:fM a.s=true) (hb:fM b.s=true) (ht:(a.s.length:Int)+a.e=b.s.length+b.e):∀ (k i:Nat),a.s.length≤i+k→b.s.length≤i+k→l8 a b k ((a.s.length:Int)+a.e-1-i)=r_ (a.s.drop i) (b.s.drop i)
 | 0,i,h1,h2=>by
  rw [drop_eq_nil_of_le (by omega),drop_eq_nil_of_le (by omega)]
  simp only [l8,r_]
 | k+1,i,h1,h2=>by
  have ih:=OL a b ha hb ht k (i+1) (by omega) (by omega)
  have e:(a.s.length:Int)+a.e-1-((i+1:Nat):Int)=(a.s.length:Int)+a.e-1-i-1:=by omega
  rw [e] at ih
  have fa:=Lv a i
  have fb:=Lv b i
  rw [← ht] at fb
  simp only [l8,ih]
  rcases Nat.lt_or_ge i a.s.length with la | la <;> rcases Nat.lt_or_ge i b.s.length with lb | lb
  · rw [List.getElem?_eq_getElem la] at fa
    rw [List.getElem?_eq_getElem lb] at fb
    simp only at fa fb
    rw [List.drop_eq_getElem_cons la,List.drop_eq_getElem_cons lb,r_,fa,fb]
    by_cases c1:a.s[i].toNat<b.s[i].toNat
    · rw [if_pos (by omega),if_pos c1]
    · rw [if_neg (by omega),if_neg c1]
      by_cases c2:b.s[i].toNat<a.s[i].toNat
      · rw [if_pos (by omega),if_pos c2]
      · rw [if_neg (by omega),if_neg c2]
  · rw [List.getElem?_eq_getElem la] at fa
    rw [List.getElem?_eq_none lb] at fb
    simp only at fa fb
    have:=pX ha (List.getElem?_eq_getElem la)
    rw [List.drop_eq_getElem_cons la,drop_eq_nil_of_le lb,drop_eq_nil_of_le (by omega:b.s.length≤i+1),r_,fa,fb]
    by_cases c1:48<a.s[i].toNat
    · rw [if_neg (by omega),if_pos (by omega),if_pos c1]
    · rw [if_neg (by omega),if_neg (by omega),if_neg c1]
  · rw [List.getElem?_eq_none la] at fa
    rw [List.getElem?_eq_getElem lb] at fb
    simp only at fa fb
    have:=pX hb (List.getElem?_eq_getElem lb)
    rw [List.drop_eq_getElem_cons lb,drop_eq_nil_of_le la,drop_eq_nil_of_le (by omega:a.s.length≤i+1),r_,fa,fb]
    by_cases c1:48<b.s[i].toNat
    · rw [if_pos (by omega),if_pos c1]
    · rw [if_neg (by omega),if_neg (by omega),if_neg c1]
  · rw [List.getElem?_eq_none la] at fa
    rw [List.getElem?_eq_none lb] at fb
    simp only at fa fb
    rw [drop_eq_nil_of_le la,drop_eq_nil_of_le lb,drop_eq_nil_of_le (by omega:a.s.length≤i+1),drop_eq_nil_of_le (by omega:b.s.length≤i+1),fa,fb]
    simp
theorem Gt:∀ ys:List UInt8,(∀ c ∈ ys,48≤c.toNat)→ys≠[]→ys.getLast?≠some 48→r_ [] ys=-1
 | [],_,h,_=>absurd rfl h
 | [y],hf,_,hl=>by
  have h1:=hf y (List.mem_cons_self ..)
  have h2:y.toNat≠48:=fun h=>hl (by rw [List.getLast?_singleton];congr 1;exact UInt8.toNat_inj.1 (by simpa using h))
  rw [r_,if_pos (by omega)]
 | y::z::ys,hf,_,hl=>by
  rw [r_]
  split
  · rfl
  · exact Gt (z::ys) (fun c hc=>hf c (List.mem_cons_of_mem _ hc)) (by simp) (by rwa [List.getLast?_cons_cons] at hl)
theorem xk:∀ xs ys:List UInt8,r_ ys xs=-r_ xs ys
 | [],[]=>by simp [r_]
 | [],y::ys=>by
  simp only [r_];split
  · rfl
  · exact xk [] ys
 | x::xs,[]=>by
  simp only [r_];split
  · rfl
  · exact xk xs []
 | x::xs,y::ys=>by
  simp only [r_]
  have:=xk xs ys
  repeat' split
  all_goals omega
theorem OM:∀ xs ys:List UInt8,(∀ c ∈ xs,48≤c.toNat)→(∀ c ∈ ys,48≤c.toNat)→xs.getLast?≠some 48→ys.getLast?≠some 48→r_ xs ys=jk xs ys
 | [],[],_,_,_,_=>by simp [r_,jk,Op.bytesLess]
 | [],y::ys,_,hb,_,lb=>by rw [Gt (y::ys) hb (by simp) lb];rfl
 | x::xs,[],ha,_,la,_=>by rw [xk,Gt (x::xs) ha (by simp) la];rfl
 | x::xs,y::ys,ha,hb,la,lb=>by
  have hla:xs.getLast?≠some 48:=by
   cases xs with
   | nil=>simp
   | cons z zs=>rwa [List.getLast?_cons_cons] at la
  have hlb:ys.getLast?≠some 48:=by
   cases ys with
   | nil=>simp
   | cons z zs=>rwa [List.getLast?_cons_cons] at lb
  have ih:=OM xs ys (fun c hc=>ha c (List.mem_cons_of_mem _ hc)) (fun c hc=>hb c (List.mem_cons_of_mem _ hc)) hla hlb
  rw [r_]
  by_cases h1:x.toNat<y.toNat
  · have:x<y:=UInt8.lt_iff_toNat_lt.2 h1
    rw [if_pos h1]
    simp [jk,Op.bytesLess,this]
  · rw [if_neg h1]
    have hn:¬ x<y:=fun h=>h1 (UInt8.lt_iff_toNat_lt.1 h)
    by_cases h2:y.toNat<x.toNat
    · have hxy:x≠y:=fun h=>by rw [h] at h2;omega
      rw [if_pos h2]
      simp [jk,Op.bytesLess,hn,hxy]
    · have hxy:x=y:=UInt8.toNat_inj.1 (by omega)
      subst hxy
      rw [if_neg h2,ih]
      simp [jk,Op.bytesLess]
theorem h_ (n:Nd) (p:Int) (h:(n.s.length:Int)+n.e≤p):yt n p=0:=by
 simp only [yt]
 rw [if_pos (by omega)]
theorem xq (n:Nd) (hf:fM n.s=true) (hs:n.s≠[]) (hh:n.s.head?≠some 48):0<yt n ((n.s.length:Int)+n.e-1):=by
 have h:=Lv n 0
 cases hns:n.s with
 | nil=>exact absurd hns hs
 | cons c t=>
  have h0:n.s[0]?=some c:=by rw [hns];rfl
  rw [h0] at h
  simp only [Int.natCast_zero,Int.sub_zero] at h
  have hc:=pX hf h0
  have hne:c.toNat≠48:=fun he=>hh (by rw [hns,List.head?_cons];congr 1;exact UInt8.toNat_inj.1 (by simpa using he))
  rw [← hns,h]
  omega
theorem Tv (a b:Nd) (k:Nat) (p:Int) (hk:2≤k) (h0:yt a p=yt b p) (h1:yt a (p-1)<yt b (p-1)):l8 a b k p=-1:=by
 obtain ⟨k,rfl⟩:∃ q,k=q+2:=⟨k-2,by omega⟩
 rw [l8,if_neg (by omega),if_neg (by omega),l8,if_pos h1]
theorem Tw (a b:Nd) (k:Nat) (p:Int) (hk:2≤k) (h0:yt a p=yt b p) (h1:yt b (p-1)<yt a (p-1)):l8 a b k p=1:=by
 obtain ⟨k,rfl⟩:∃ q,k=q+2:=⟨k-2,by omega⟩
 rw [l8,if_neg (by omega),if_neg (by omega),l8,if_neg (by omega),if_pos h1]
theorem JY (a b:Nd) (h:∀ p,yt a p=yt b p):∀ (k:Nat) (p:Int),l8 a b k p=0
 | 0,_=>rfl
 | k+1,p=>by
  have:=h p
  rw [l8,if_neg (by omega),if_neg (by omega)]
  exact JY a b h k (p-1)
end Lp
namespace Lp
open Go
theorem CY (a b:Nd) (t:Int) (h:∀ q,t≤q→yt a q=yt b q) (k:Nat):∀ d:Nat,l8 a b (k+d) (t+d)=l8 a b k t
 | 0=>by simp
 | d+1=>by
  have:=h (t+((d+1:Nat):Int)) (by omega)
  rw [show k+(d+1)=(k+d)+1 by omega,l8,if_neg (by omega),if_neg (by omega),show t+((d+1:Nat):Int)-1=t+d by omega]
  exact CY a b t h k d
theorem Vk (a b:Nd) (ha:qX a=true) (hb:qX b=true):l8 a b (ku a b-jK a b+1).toNat (ku a b)=oh a b:=by
 have A:=(nS a).1 ha
 have B:=(nS b).1 hb
 have hl:∀ x:Nd,x.s≠[]→0<x.s.length:=fun x h=>List.length_pos_iff.2 h
 have zero:∀ n:Nd,n.s=[]→∀ p,yt n p=0:=by
  intro n hn p
  simp only [yt,hn]
  split
  · rfl
  · simp
 by_cases sa:a.s=[]
 · have ea:a.e=0:=by have:=A.2.2.2.2.2.2;rw [if_pos sa] at this;exact this.2
   by_cases sb:b.s=[]
   · rw [JY a b (fun p=>by rw [zero a sa,zero b sb]),oh,if_pos (.inl sa),sa,sb];rfl
   · have hb2:=B.2.2.2.2.2.2
     rw [if_neg sb] at hb2
     have hlb:=hl b sb
     have first:=xq b B.2.1 sb hb2.1
     rw [oh,if_pos (.inl sa),sa,sK,if_pos (by simp;omega)]
     have low:jK a b≤b.e:=by unfold jK;split <;> omega
     have htop:(b.s.length:Int)+b.e≤ku a b:=by unfold ku;split <;> omega
     have hsk:=CY a b ((b.s.length:Int)+b.e) (fun q hq=>by rw [zero a sa,h_ b q hq]) ((b.s.length:Int)+b.e-jK a b+1).toNat (ku a b-(b.s.length+b.e)).toNat
     rw [show ((b.s.length:Int)+b.e-jK a b+1).toNat+(ku a b-(b.s.length+b.e)).toNat=(ku a b-jK a b+1).toNat by omega,show ((b.s.length:Int)+b.e)+((ku a b-(b.s.length+b.e)).toNat:Int)=ku a b by omega] at hsk
     rw [hsk]
     refine Tv a b _ _ (by omega) ?_ ?_
     · rw [zero a sa,h_ b _ (Int.le_refl _)]
     · rw [zero a sa];exact first
 by_cases sb:b.s=[]
 · have eb:b.e=0:=by have:=B.2.2.2.2.2.2;rw [if_pos sb] at this;exact this.2
   have ha2:=A.2.2.2.2.2.2
   rw [if_neg sa] at ha2
   have hla:=hl a sa
   have first:=xq a A.2.1 sa ha2.1
   rw [oh,if_pos (.inr sb),sb,sK,if_neg (by simp),if_pos (by simp;omega)]
   have low:jK a b≤a.e:=by unfold jK;split <;> omega
   have htop:(a.s.length:Int)+a.e≤ku a b:=by unfold ku;split <;> omega
   have hsk:=CY a b ((a.s.length:Int)+a.e) (fun q hq=>by rw [zero b sb,h_ a q hq]) ((a.s.length:Int)+a.e-jK a b+1).toNat (ku a b-(a.s.length+a.e)).toNat
   rw [show ((a.s.length:Int)+a.e-jK a b+1).toNat+(ku a b-(a.s.length+a.e)).toNat=(ku a b-jK a b+1).toNat by omega,show ((a.s.length:Int)+a.e)+((ku a b-(a.s.length+a.e)).toNat:Int)=ku a b by omega] at hsk
   rw [hsk]
   refine Tw a b _ _ (by omega) ?_ ?_
   · rw [zero b sb,h_ a _ (Int.le_refl _)]
   · rw [zero b sb];exact first
 · have ha2:=A.2.2.2.2.2.2
   have hb2:=B.2.2.2.2.2.2
   rw [if_neg sa] at ha2
   rw [if_neg sb] at hb2
   have hla:=hl a sa
   have hlb:=hl b sb
   have fa:=xq a A.2.1 sa ha2.1
   have fb:=xq b B.2.1 sb hb2.1
   rw [oh,if_neg (by simp [sa,sb])]
   have low:jK a b≤a.e∧jK a b≤b.e:=by unfold jK;split <;> omega
   by_cases ht:(a.s.length:Int)+a.e=b.s.length+b.e
   · rw [if_pos ((oV.zero _ _ trivial trivial).2 ht)]
     have htop:ku a b=a.s.length+a.e:=by unfold ku;split <;> omega
     rw [htop]
     obtain ⟨k,hk⟩:∃ k,((a.s.length:Int)+a.e-jK a b+1).toNat=k+1:=⟨((a.s.length:Int)+a.e-jK a b).toNat,by omega⟩
     rw [hk,l8,h_ a _ (Int.le_refl _),h_ b _ (by omega),if_neg (by omega),if_neg (by omega)]
     have:=OL a b A.2.1 B.2.1 ht k 0 (by omega) (by omega)
     simp only [Int.natCast_zero,Int.sub_zero,List.drop_zero] at this
     rw [this]
     exact OM _ _ (fun c hc=>(OJ A.2.1 c hc).1) (fun c hc=>(OJ B.2.1 c hc).1) ha2.2 hb2.2
   · rw [if_neg (fun h=>ht ((oV.zero _ _ trivial trivial).1 h))]
     rcases Int.lt_or_gt_of_ne ht with hlt | hgt
     · have htop:ku a b=b.s.length+b.e:=by unfold ku;split <;> omega
       rw [htop,sK,if_pos hlt]
       refine Tv a b _ _ (by omega) ?_ ?_
       · rw [h_ a _ (by omega),h_ b _ (Int.le_refl _)]
       · rw [h_ a _ (by omega)];exact fb
     · have htop:ku a b=a.s.length+a.e:=by unfold ku;split <;> omega
       rw [htop,sK,if_neg (by omega),if_pos hgt]
       refine Tw a b _ _ (by omega) ?_ ?_
       · rw [h_ b _ (by omega),h_ a _ (Int.le_refl _)]
       · rw [h_ b _ (by omega)];exact fa
theorem Y_ (a b:Nd) (ha:qX a=true) (hb:qX b=true):kV a b=TM a b:=by
 have h:=Vk a b ha hb
 have h2:=PY a b
 simp only [kV,h]
 cases hx:a.neg <;> cases hy:b.neg <;> simp [TM,hx,hy,h2]
end Lp
namespace Lp
open Go
theorem OO:∀ (f:Nat) (a b:Vl),Rt a→Rt b→jl kV f a b=qY f a b
 | 0,a,b,_,_=>by simp [jl]
 | f+1,[],b,ha,_=>absurd rfl ha.one.ne
 | f+1,n::r,[],_,hb=>absurd rfl hb.one.ne
 | f+1,n::r,m::q,ha,hb=>by
  have hp:=Df ha
  have hq:=Df hb
  have pn:=ha.parts.1
  have pm:=hb.parts.1
  have e:eD (jl kV f) (partsOf n r) (partsOf m q)=eD (qY f) (partsOf n r) (partsOf m q):=
   Dc _ _ fun x hx y hy=>OO f x y (hp x hx).2 (hq y hy).2
  by_cases hk:n.kind=m.kind
  · by_cases h3:n.kind=3
    · have:=Y_ n m (pY pn h3) (pY pm (hk ▸ h3))
      simp only [qY,jl,this,e]
    · simp only [qY,jl,if_neg h3,e]
  · simp only [qY,jl,ne_eq,hk,not_false_eq_true,if_true]
end Lp
namespace Lp
open Go Go.Proofs
open Nat (reduceAdd reduceLeDiff reduceMul reduceSub)
open Int (reduceEq reduceLE reduceToNat)
def Bl (m e:Int):Bool:=decide (-1000≤e) && decide (e≤1000) && decide (m+e≤1000)
theorem Lx (m e:Int) (hm:0≤m∧m≤1000000):ah Tryz.prog 121 [.int .i64 m,.int .i64 e] [] (.bool (Bl m e)) []:=by
 refine Im.bg (T:=aQ Tryz.prog []) 0 hD (aj ai) aV (by decide) fun Q hQ=>?_
 rcases tf (-1000≤e) with h1 | h1
 rotate_left 1
 · have hr:Bl m e=false:=by have:¬ (-1000≤e):=fun h=>by rw [h1] at h;exact h
                            simp [Bl,this]
   (conv=>arg 4;cbv);simp(maxSteps:=400000)only[↓aB,aC,BEq.rfl,reduceIte,reduceCtorEq,Nat.reduceLT,reduceAdd,reduceSub,reduceMul,Nat.reduceBEq,reduceLeDiff,reduceToNat,reduceLE,hQ,h1,hr]
 rcases tf (e≤1000) with h2 | h2
 rotate_left 1
 · have hr:Bl m e=false:=by have:¬ (e≤1000):=fun h=>by rw [h2] at h;exact h
                            simp [Bl,this]
   (conv=>arg 4;cbv);simp(maxSteps:=400000)only[↓aB,aC,BEq.rfl,reduceIte,reduceCtorEq,Nat.reduceLT,reduceAdd,reduceSub,reduceMul,Nat.reduceBEq,reduceLeDiff,reduceToNat,reduceLE,hQ,h1,h2,hr]
 have h1':=of_eq_true h1
 have h2':=of_eq_true h2
 have hr:Bl m e=decide (m+e≤1000):=by simp [Bl,h1',h2']
 (conv=>arg 4;cbv);simp(maxSteps:=400000)only[↓aB,aC,BEq.rfl,reduceIte,reduceCtorEq,Nat.reduceLT,reduceAdd,reduceSub,reduceMul,Nat.reduceBEq,reduceLeDiff,reduceToNat,reduceLE,hQ,h1,h2,hr]
 exact ⟨by omega,by omega⟩
def iI:dN:=fun args objs K=>match args with
 | [.int .i64 m,.int .i64 e]=>(0≤m∧m≤1000000)∧K (.bool (Bl m e)) objs 0
 | _=>False
theorem yw:aF Tryz.prog 121 (iI):=by
 intro args objs K h
 unfold iI at h
 split at h
 · rename_i m e
   obtain ⟨h1,hk⟩:=h
   exact ⟨_,_,_,.pure _ rfl (Lx m e h1),hk⟩
 · exact h.elim
theorem Gu (s:List UInt8) (hs:s.length≤4611686018427387904):ah Tryz.prog 118 [.str s] [] (.bool (fM s)) []:=by
 refine Eg.bg (T:=aQ Tryz.prog [(150,tN)]) 0 hD (aj (af IB ai)) aV (by decide) fun Q hQ=>?_
 have hf:=QT s
 (conv=>arg 4;cbv);simp(maxSteps:=400000)only[↓aB,aC,BEq.rfl,reduceIte,reduceCtorEq,Nat.reduceLT,reduceAdd,reduceSub,reduceMul,Nat.reduceBEq,reduceLeDiff,reduceToNat,reduceLE,hQ,↓tN]
 refine ⟨hs,?_⟩
 rw [Bool.eq_iff_iff,← hf,decide_eq_true_iff]
 constructor
 · intro h;rw [h]
 · intro h
   generalize Lib.trimF lI ⟨⟨s⟩⟩=t at h
   obtain ⟨⟨t⟩⟩:=t
   have h':t=[]:=h
   rw [h']
def dA:dN:=fun args objs K=>match args with
 | [.str s]=>(s.length≤4611686018427387904)∧K (.bool (fM s)) objs 0
 | _=>False
theorem uR:aF Tryz.prog 118 (dA):=by
 intro args objs K h
 unfold dA at h
 split at h
 · rename_i s
   obtain ⟨h1,hk⟩:=h
   exact ⟨_,_,_,.pure _ rfl (Gu s h1),hk⟩
 · exact h.elim
theorem Vm (n:Nd) (hk:n.kind=3) (hn:n.name=[]) (hs:n.s.length≤4611686018427387904):ah Tryz.prog 164 [au n] [] (.bool (qX n)) []:=by
 refine NF.bg (T:=aQ Tryz.prog [(121,iI),(118,dA),(187,AV)]) 0 hD (aj (af yw (af uR (af Ob ai)))) aV (by decide) fun Q hQ=>?_
 (conv=>arg 4;cbv);simp(maxSteps:=400000)only[↓aB,aC,BEq.rfl,reduceIte,reduceCtorEq,Nat.reduceLT,reduceAdd,reduceSub,reduceMul,Nat.reduceBEq,reduceLeDiff,reduceToNat,reduceLE,hQ]
 refine aR _ (Weak.freeze 1 0 (Nat.le_refl _) _) ?_
 have key:=nS n
 have hpw:∀ b,Bl n.s.length n.e=b→(b=true↔-1000≤n.e∧n.e≤1000∧n.s.length+n.e≤1000):=fun b hb=>by
  rw [← hb];simp [Bl,and_assoc]
 cases hp:Bl n.s.length n.e
 · have hr:qX n=false:=iX fun h=>by
    have g:=(hpw _ hp).2 ⟨(key.1 h).2.2.2.1,(key.1 h).2.2.2.2.1,(key.1 h).2.2.2.2.2.1⟩
    cases g
   simp(maxSteps:=400000)only[↓aB,aC,BEq.rfl,reduceIte,reduceCtorEq,Nat.reduceLT,reduceAdd,reduceSub,reduceMul,Nat.reduceBEq,reduceLeDiff,reduceToNat,reduceLE,hQ,jb,↓iI,hk,hn,reduceEq,hp,hr]
   refine fun h0 h1=>⟨by omega,by omega⟩
 have XM:=(hpw _ hp).1 rfl
 cases hf:fM n.s
 · have hr:qX n=false:=iX fun h=>by have:=(key.1 h).2.1;rw [hf] at this;cases this
   simp(maxSteps:=400000)only[↓aB,aC,BEq.rfl,reduceIte,reduceCtorEq,Nat.reduceLT,reduceAdd,reduceSub,reduceMul,Nat.reduceBEq,reduceLeDiff,reduceToNat,reduceLE,hQ,jb,↓iI,↓dA,hk,hn,reduceEq,hp,hf,hr]
   refine fun h0 h1=>⟨⟨by omega,by omega⟩,hs⟩
 by_cases hz:n.s=[]
 · rw [if_pos hz] at key
   have hf0:fM []=true:=rfl
   rw [hz] at hp key
   have hp0:Bl ((0:Nat):Int) n.e=true:=hp
   simp(maxSteps:=400000)only[↓aB,aC,BEq.rfl,reduceIte,reduceCtorEq,Nat.reduceLT,reduceAdd,reduceSub,reduceMul,Nat.reduceBEq,reduceLeDiff,reduceToNat,reduceLE,hQ,jb,↓iI,↓dA,hk,hn,reduceEq,hp0,hf0,hz]
   refine ⟨fun h0=>⟨fun h=>absurd h (by omega),fun _=>⟨⟨by omega,by omega⟩,fun hng=>?_,fun hng=>?_⟩⟩,fun h0=>iX fun hb=>h0 (key.1 hb).1⟩
   · exact iX fun hb=>by have:=(key.1 hb).2.2.2.2.2.2.1;rw [hng] at this;cases this
   · rw [Bool.eq_iff_iff,decide_eq_true_iff,key]
     refine ⟨fun h=>h.2.2.2.2.2.2.2,fun h=>⟨h0,rfl,by simp,XM.1,XM.2.1,by simp;omega,by simpa using hng,h⟩⟩
 · rw [if_neg hz] at key
   have htr:=QU n.s 48
   have hz':(n.s=[])=False:=eq_false hz
   simp(maxSteps:=400000)only[↓aB,aC,BEq.rfl,reduceIte,reduceCtorEq,Nat.reduceLT,reduceAdd,reduceSub,reduceMul,Nat.reduceBEq,reduceLeDiff,reduceToNat,reduceLE,hQ,jb,↓iI,↓dA,↓AV,hk,hn,reduceEq,hp,hf,hz']
   refine ⟨fun h0=>⟨fun h=>iX fun hb=>?_,fun h1=>⟨⟨by omega,by omega⟩,hs,hs,?_⟩⟩,fun h0=>iX fun hb=>h0 (key.1 hb).1⟩
   · have:=key.1 hb;omega
   · rw [Bool.eq_iff_iff,decide_eq_true_iff,key,htr]
     exact ⟨fun h=>h.2.2.2.2.2.2,fun h=>⟨h0,hf,by omega,XM.1,XM.2.1,XM.2.2,h⟩⟩
def l9:dN:=fun args objs K=>match args with
 | [a0]=>gZ au a0 (HK.mk:HK fun n=>(n.kind=3)∧(n.name=[])∧(n.s.length≤4611686018427387904)∧K (.bool (qX n)) objs 0)
 | _=>False
theorem Rm:aF Tryz.prog 164 (l9):=by
 intro args objs K h
 unfold l9 at h
 split at h
 · rename_i a0
   obtain ⟨n,rfl,h1,h2,h3,hk⟩:=h
   exact ⟨_,_,_,.pure _ rfl (Vm n h1 h2 h3),hk⟩
 · exact h.elim
theorem LA (n:Nd) (hl:n.s.length≤4611686018427387904):ah Tryz.prog 128 [au n] [] (.bool (bE n)) []:=by
 refine Il.bg (T:=aQ Tryz.prog [(56,cK),(164,l9)]) 0 hD (aj (af oL (af Rm ai))) aV (by decide) fun Q hQ=>?_
 (conv=>arg 4;cbv);simp(maxSteps:=400000)only[↓aB,aC,BEq.rfl,reduceIte,reduceCtorEq,Nat.reduceLT,reduceAdd,reduceSub,reduceMul,Nat.reduceBEq,reduceLeDiff,reduceToNat,reduceLE,hQ,nmP,ace]
 refine aR _ (Weak.freeze 1 0 (Nat.le_refl _) _) ?_
 have hn0:∀ h,eP 1 0 [⟨42,6,[au { kind:=n.kind,many:=n.many,name:=[],s:=n.s,neg:=n.neg,e:=n.e }],true,1⟩] (.bM 0 1 0 0)=h→.addr (au ⟨n.kind,n.many,[],n.s,n.neg,n.e⟩)=h:=fun _ h=>h
 have h8:n.kind=0∨n.kind=1∨n.kind=2∨n.kind=3∨n.kind=4∨n.kind=5∨n.kind=6∨(n.kind≠0∧n.kind≠1∧n.kind≠2∧n.kind≠3∧n.kind≠4∧n.kind≠5∧n.kind≠6):=by omega
 rcases h8 with hk | hk | hk | hk | hk | hk | hk | ⟨k0,k1,k2,k3,k4,k5,k6⟩
 · simp(maxSteps:=400000)only[↓aB,aC,BEq.rfl,reduceIte,reduceCtorEq,Nat.reduceLT,reduceAdd,reduceSub,reduceMul,Nat.reduceBEq,reduceLeDiff,reduceToNat,reduceLE,hQ,jb,↓cK,↓l9,hk,reduceEq]
   rw [Bool.eq_iff_iff]
   simp [bE,hk,and_assoc]
 · simp(maxSteps:=400000)only[↓aB,aC,BEq.rfl,reduceIte,reduceCtorEq,Nat.reduceLT,reduceAdd,reduceSub,reduceMul,Nat.reduceBEq,reduceLeDiff,reduceToNat,reduceLE,hQ,jb,↓cK,↓l9,hk,reduceEq]
   rw [Bool.eq_iff_iff]
   simp [bE,hk,and_assoc]
 · simp(maxSteps:=400000)only[↓aB,aC,BEq.rfl,reduceIte,reduceCtorEq,Nat.reduceLT,reduceAdd,reduceSub,reduceMul,Nat.reduceBEq,reduceLeDiff,reduceToNat,reduceLE,hQ,jb,↓cK,↓l9,hk,reduceEq]
   rw [Bool.eq_iff_iff]
   simp [bE,hk,and_assoc]
 · simp(maxSteps:=400000)only[↓aB,aC,BEq.rfl,reduceIte,reduceCtorEq,Nat.reduceLT,reduceAdd,reduceSub,reduceMul,Nat.reduceBEq,reduceLeDiff,reduceToNat,reduceLE,hQ,jb,↓cK,↓l9,hk,reduceEq]
   refine ⟨hl,?_⟩
   simp [bE,hk,qX]
 · simp(maxSteps:=400000)only[↓aB,aC,BEq.rfl,reduceIte,reduceCtorEq,Nat.reduceLT,reduceAdd,reduceSub,reduceMul,Nat.reduceBEq,reduceLeDiff,reduceToNat,reduceLE,hQ,jb,↓cK,↓l9,hk,reduceEq]
   refine ⟨hl,?_⟩
   cases hu:utf n.s
   · simp [yY,bE,hk,hu]
   · simp only [ZW]
     rw [Bool.eq_iff_iff]
     simp [bE,hk,hu,and_assoc]
 · simp(maxSteps:=400000)only[↓aB,aC,BEq.rfl,reduceIte,reduceCtorEq,Nat.reduceLT,reduceAdd,reduceSub,reduceMul,Nat.reduceBEq,reduceLeDiff,reduceToNat,reduceLE,hQ,jb,↓cK,↓l9,hk,reduceEq]
   refine ⟨fun hm=>?_,fun hm=>?_⟩
   · rw [Bool.eq_iff_iff]
     simp [bE,hk,hm,and_assoc]
   · simp [bE,hk,hm]
 · simp(maxSteps:=400000)only[↓aB,aC,BEq.rfl,reduceIte,reduceCtorEq,Nat.reduceLT,reduceAdd,reduceSub,reduceMul,Nat.reduceBEq,reduceLeDiff,reduceToNat,reduceLE,hQ,jb,↓cK,↓l9,hk,reduceEq]
   refine ⟨fun hm=>?_,fun hm=>?_⟩
   · rw [Bool.eq_iff_iff]
     simp [bE,hk,hm,and_assoc]
   · simp [bE,hk,hm]
 · simp(maxSteps:=400000)only[↓aB,aC,BEq.rfl,reduceIte,reduceCtorEq,Nat.reduceLT,reduceAdd,reduceSub,reduceMul,Nat.reduceBEq,reduceLeDiff,reduceToNat,reduceLE,hQ,jb,↓cK,↓l9,k0,k1,k2,k3,k4,k5,k6]
   simp [bE,k0,k1,k2,k3,k4,k5,k6]
def fT:dN:=fun args objs K=>match args with
 | [a0]=>gZ au a0 (HK.mk:HK fun n=>(n.s.length≤4611686018427387904)∧K (.bool (bE n)) objs 0)
 | _=>False
theorem IJ:aF Tryz.prog 128 (fT):=by
 intro args objs K h
 unfold fT at h
 split at h
 · rename_i a0
   obtain ⟨n,rfl,h1,hk⟩:=h
   exact ⟨_,_,_,.pure _ rfl (LA n h1),hk⟩
 · exact h.elim
end Lp
namespace Lp
open Go Go.Proofs
open List (length_reverse map_cons map_map map_nil take_zero)
open Nat (lt_or_ge reduceAdd reduceLeDiff reduceMul reduceSub)
open Int (reduceLE reduceToNat)
def iE (o:zO):PV:=.agg [.int .i64 o.kind,.int .i64 o.left,.bool o.first,.str o.last]
def Bn (l:List zO):PV:=.sl 4 (l.map iE) none
theorem Gv:∀ a b,iE a=iE b→a=b:=by
 intro a b h
 cases a;cases b
 simp only [iE,PV.agg.injEq,List.cons.injEq,PV.int.injEq,PV.str.injEq,PV.bool.injEq,true_and,and_true] at h
 obtain ⟨rfl,rfl,rfl,rfl⟩:=h
 rfl
theorem CZ :
  (∀ o,(iE o).cells=[.int .i64 o.kind,.int .i64 o.left,.bool o.first,.str o.last])∧(∀ o,(iE o).isAgg=true)∧(∀ o,(iE o).pure=true)∧(∀ d m O o,eP d m O (iE o)=iE o)∧(∀ d m O o,gL d m O (iE o)=iE o)∧type_of% (aN Gv):=
 ⟨fun _=>rfl,fun _=>rfl,fun _=>rfl,fun _ _ _ _=>rfl,fun _ _ _ _=>rfl,aN Gv⟩
theorem hO:∀ l,Bn l=.sl 4 (l.map iE) none:=fun _=>rfl
theorem JZ:∀ a b,Bn a=Bn b→a=b:=ny hO Gv
theorem inO:uN iE:=by intro d n o x;cases d <;> rfl
theorem XO:type_of% CZ∧type_of% (rO hO)∧type_of% (jq hO)∧type_of% (rP hO)∧type_of% (aN JZ)∧type_of% (iH hO inO):=
 ⟨CZ,rO hO,jq hO,rP hO,aN JZ,iH hO inO⟩
def wo (o:zO):Bool:=decide (0<o.left)
theorem Rn (o:zO):ah Tryz.prog 130 [iE o] [] (.bool (wo o)) []:=by
 unfold wo
 refine Io.bg (T:=aQ Tryz.prog []) 0 hD (aj ai) aV (by decide) fun Q hQ=>?_
 (conv=>arg 4;cbv);simp(maxSteps:=400000)only[↓aB,aC,BEq.rfl,reduceIte,reduceCtorEq,Nat.reduceLT,reduceAdd,reduceSub,reduceMul,Nat.reduceBEq,reduceLeDiff,reduceToNat,reduceLE,hQ,iE]
def wu:dN:=fun args objs K=>match args with
 | [a0]=>gZ iE a0 (HK.mk:HK fun o=>K (.bool (wo o)) objs 0)
 | _=>False
theorem OP:aF Tryz.prog 130 (wu):=by
 intro args objs K h
 unfold wu at h
 split at h
 · rename_i a0
   obtain ⟨o,rfl,hk⟩:=h
   exact ⟨_,_,_,.pure _ rfl (Rn o),hk⟩
 · exact h.elim
def idxOf {α:Type}(p:α→Bool) (l:List α):Int:=match l.findIdx? p with
 | some i=>i
 | none=>-1
theorem idxOf_hit {α:Type}{p:α→Bool}{l:List α}{i:Nat}{x:α}(h:l[i]?=some x) (hx:p x=true) (hb:∀ (j:Nat) y,j<i→l[j]?=some y→p y=false):idxOf p l=i:=by
 have:l.findIdx? p=some i:=by
  rw [List.findIdx?_eq_some_iff_getElem]
  obtain ⟨hi,he⟩:=List.getElem?_eq_some_iff.1 h
  refine ⟨hi,by rw [he];exact hx,fun j hj=>?_⟩
  have:=hb j _ hj (List.getElem?_eq_getElem (by omega))
  simp [this]
 simp [idxOf,this]
theorem Gw {α:Type}{p:α→Bool}{l:List α}(hb:∀ (j:Nat) y,l[j]?=some y→p y=false):idxOf p l=-1:=by
 have:l.findIdx? p=none:=by
  rw [List.findIdx?_eq_none_iff]
  intro x hx
  obtain ⟨i,hi⟩:=List.mem_iff_getElem?.1 hx
  exact hb i x hi
 simp [idxOf,this]
theorem J2 {α:Type}(p:α→Bool) (l:List α):decide (0≤idxOf p l)=l.any p:=by
 rw [Bool.eq_iff_iff,decide_eq_true_iff]
 cases h:l.findIdx? p with
 | none=>
  rw [List.findIdx?_eq_none_iff] at h
  have:l.any p=false:=by rw [List.any_eq_false];intro x hx;simp [h x hx]
  simp [idxOf,List.findIdx?_eq_none_iff.2 h,this]
 | some i=>
  have h':=h
  rw [List.findIdx?_eq_some_iff_getElem] at h'
  obtain ⟨hi,hp,_⟩:=h'
  have:l.any p=true:=List.any_eq_true.2 ⟨_,List.getElem_mem hi,hp⟩
  simp [idxOf,h,this]
theorem LB (l:List zO) (hl:l.length≤4611686018427387904):ah Tryz.prog 165 [Bn l,.fn 130 [] []] [] (.int .i64 (idxOf wo l)) []:=by
 refine jI.bg (T:=aQ Tryz.prog [(130,wu)]) 0 hD (aj (af OP ai)) aV (by decide) fun Q hQ=>?_
 (conv=>arg 4;cbv);simp(maxSteps:=400000)only[↓aB,aC,BEq.rfl,reduceIte,reduceCtorEq,Nat.reduceLT,reduceAdd,reduceSub,reduceMul,Nat.reduceBEq,reduceLeDiff,reduceToNat,reduceLE,hQ,XO]
 refine aA (fun m S=>∃ i:Nat,i+m=l.length∧(∀ (j:Nat) y,j<i→l[j]?=some y→wo y=false)∧S=⟨dh 19 [(0,Bn l),(1,.fn 130 [] []),(7,.int .i64 l.length),(8,.int .i64 i)],[]⟩) l.length ⟨0,by omega,fun j y h=>absurd h (Nat.not_lt_zero j),?_⟩ ?_
 · simp only [bJ,keepR,reduceAdd,kU,Nat.reduceBEq,map_nil]
   rfl
 rintro m S ⟨i,him,hb,rfl⟩
 rcases lt_or_ge i l.length with h | h
 rotate_left 1
 · have hlt:((i:Int)<(l.length:Int))=False:=eq_false (by omega)
   have hr:=Gw (l:=l) fun j y hj=>hb j y (by have:=(List.getElem?_eq_some_iff.1 hj).1;omega) hj
   simp(maxSteps:=400000)only[↓aB,aC,BEq.rfl,reduceIte,reduceCtorEq,Nat.reduceLT,reduceAdd,reduceSub,reduceMul,Nat.reduceBEq,reduceLeDiff,reduceToNat,reduceLE,hQ,hlt,hr]
 have hlt:((i:Int)<(l.length:Int))=True:=eq_true (by omega)
 have zi:(0≤(i:Int))=True:=eq_true (by omega)
 have hgi:=List.getElem?_eq_getElem h
 generalize l[i]=o at hgi
 cases hp:wo o
 rotate_left 1
 · have hr:idxOf wo l=i:=idxOf_hit hgi hp hb
   simp(maxSteps:=400000)only[↓aB,aC,BEq.rfl,reduceIte,reduceCtorEq,Nat.reduceLT,reduceAdd,reduceSub,reduceMul,Nat.reduceBEq,reduceLeDiff,reduceToNat,reduceLE,hQ,hlt,zi,XO,hgi,↓wu,hp,hr]
 · simp(maxSteps:=400000)only[↓aB,aC,BEq.rfl,reduceIte,reduceCtorEq,Nat.reduceLT,reduceAdd,reduceSub,reduceMul,Nat.reduceBEq,reduceLeDiff,reduceToNat,reduceLE,hQ,hlt,zi,XO,hgi,↓wu,hp]
   refine ⟨⟨by omega,by omega⟩,m-1,by omega,i+1,by omega,fun j y hj hy=>?_,rfl⟩
   rcases lt_or_ge j i with g | g
   · exact hb j y g hy
   · have:j=i:=by omega
     subst this
     rw [hgi] at hy;cases hy
     exact hp
def tV:dN:=fun args objs K=>match args with
 | [a0,a1]=>gZ Bn a0 (HK.mk:HK fun l=>a1=(.fn 130 [] [])∧(l.length≤4611686018427387904)∧K (.int .i64 (idxOf wo l)) objs 0)
 | _=>False
theorem IK:aF Tryz.prog 165 (tV):=by
 intro args objs K h
 unfold tV at h
 split at h
 · rename_i a0 a1
   obtain ⟨l,rfl,rfl,h1,hk⟩:=h
   exact ⟨_,_,_,.pure _ rfl (LB l h1),hk⟩
 · exact h.elim
theorem LD (l:List zO) (hl:l.length≤4611686018427387904):ah Tryz.prog 129 [Bn l,.fn 130 [] []] [] (.bool (l.any wo)) []:=by
 refine jg.bg (T:=aQ Tryz.prog [(165,tV)]) 0 hD (aj (af IK ai)) aV (by decide) fun Q hQ=>?_
 (conv=>arg 4;cbv);simp(maxSteps:=400000)only[↓aB,aC,BEq.rfl,reduceIte,reduceCtorEq,Nat.reduceLT,reduceAdd,reduceSub,reduceMul,Nat.reduceBEq,reduceLeDiff,reduceToNat,reduceLE,hQ,XO,↓tV,J2]
 exact hl
def tX:dN:=fun args objs K=>match args with
 | [a0,a1]=>gZ Bn a0 (HK.mk:HK fun l=>a1=(.fn 130 [] [])∧(l.length≤4611686018427387904)∧K (.bool (l.any wo)) objs 0)
 | _=>False
theorem IL:aF Tryz.prog 129 (tX):=by
 intro args objs K h
 unfold tX at h
 split at h
 · rename_i a0 a1
   obtain ⟨l,rfl,rfl,h1,hk⟩:=h
   exact ⟨_,_,_,.pure _ rfl (LD l h1),hk⟩
 · exact h.elim
theorem nU (objs:List Obj) (K:KT) :
  (∀ k m,bD D 153 [(0,.int .i64 k),(1,.int .i64 m)] objs K=K (iE ⟨k,m,false,[]⟩) objs 0)∧
  (∀ k m b,bD D 153 [(0,.int .i64 k),(1,.int .i64 m),(2,.bool b)] objs K=K (iE ⟨k,m,b,[]⟩) objs 0):=by
 have z:aK (D 153)=iE ⟨0,0,false,[]⟩:=by kernel_rfl
 have a:(D 153).agg=true:=by kernel_rfl
 simp only [bR] at z a
 refine ⟨fun k m=>?_,fun k m b=>?_⟩
 all_goals
  simp [bD,mP,a,z,bR,nO,iE,PV.isAgg,sU,PV.cells,PV.storable,PV.mH,PV.pure]
theorem zOl:(PV.ve (Value.agg { toList:=[Value.int IntKind.i64 0,Value.int IntKind.i64 0,Value.bool false,Value.string { data:={ toList:=[] } }] })).cells.length=4:=rfl
theorem zOs:(PV.ve (Value.agg { toList:=[Value.int IntKind.i64 0,Value.int IntKind.i64 0,Value.bool false,Value.string { data:={ toList:=[] } }] })).cells.all PV.storable=true:=rfl
def OQ (s:List zO) (ver:Nat):Obj:=⟨153,4,s.reverse.map iE,true,ver⟩
theorem zu:(∀ (o:zO) (m:Int),(iE o).putCells 1 [.int .i64 m]=iE { o with left:=m })∧(∀ (o:zO) (b:Bool),(iE o).putCells 2 [.bool b]=iE { o with first:=b })∧(∀ (o:zO) (t:List UInt8),(iE o).putCells 3 [.str t]=iE { o with last:=t }):=⟨fun _ _=>rfl,fun _ _=>rfl,fun _ _=>rfl⟩
theorem Gx (d n:Nat) (O:List Obj) (t:TypeId) (sz:Nat) (l:List zO) (ver:Nat):fu d n O ⟨t,sz,l.map iE,true,ver⟩=⟨t,sz,l.map iE,true,ver⟩:=by
 have:(l.map iE).map (PV.bC (eP d n O))=l.map iE:=by
  rw [map_map]
  exact List.map_congr_left fun x _=>rfl
 simp only [fu,this]
theorem IQ (v:Vl) (hs:Small v):ah Tryz.prog 105 [aD v] [] (.bool (dH v)) []:=by
 have hl:=hs.len
 refine NG.bg (T:=aQ Tryz.prog [(128,fT),(56,cK),(129,tX)]) 1 hD (aj (af IJ (af oL (af IL ai)))) aV (by decide) fun Q hQ=>?_
 (conv=>arg 4;cbv);simp(maxSteps:=400000)only[↓aB,aC,BEq.rfl,reduceIte,reduceCtorEq,Nat.reduceLT,reduceAdd,reduceSub,reduceMul,Nat.reduceBEq,reduceLeDiff,reduceToNat,reduceLE,hQ,uP,uQ,nU,zOl,zOs,CZ]
 refine aA (fun m S=>∃ (s:List zO) (i ver:Nat),i+m=v.length∧Fe v.length s (v.drop i)=dH v∧s.length≤i+1∧(∀ o ∈ s,0≤o.left∧o.left≤1000000)∧S=⟨dh 123 [(0,aD v),(3,.aY 0 ver),(10,aD v),(11,.int .i64 v.length),(12,.int .i64 i)],[OQ s ver]⟩) v.length
  ⟨[⟨5,1,false,[]⟩],0,1,by omega,P7 v,by simp,by simp,?_⟩ ?_ (hz:=Nat.zero_le _)
 · simp only [bJ,keepR,reduceAdd,kU,Nat.reduceBEq,map_nil]
   rfl
 rintro m S ⟨s,i,ver,him,hrun,hsl,hle,rfl⟩
 rcases lt_or_ge i v.length with h | h
 rotate_left 1
 · have hlt:((i:Int)<(v.length:Int))=False:=eq_false (by omega)
   have hr:dH v=Bool.not (s.any wo):=by
    rw [← hrun,List.drop_eq_nil_of_le h,Fe];rfl
   have hf:eP 1 0 [⟨153,4,s.reverse.map iE,true,ver⟩] (.aY 0 ver)=Bn s.reverse:=by
    simp only [eP,Nat.not_lt_zero,if_false,fG,List.getElem?_cons_zero,Nat.le_refl,decide_true,Bool.true_and,beq_self_eq_true,if_true]
    rw [map_map]
    rfl
   unfold OQ
   simp(maxSteps:=400000)only[↓aB,aC,BEq.rfl,reduceIte,reduceCtorEq,Nat.reduceLT,reduceAdd,reduceSub,reduceMul,Nat.reduceBEq,reduceLeDiff,reduceToNat,reduceLE,hQ,hlt]
   refine aR _ (Weak.freeze 1 0 (Nat.zero_le _) _) ?_
   rcases Nat.eq_zero_or_pos v.length with h0 | h0
   · have h0':((0:Int)<(v.length:Int))=False:=eq_false (by omega)
     have hrf:dH v=false:=by
      have:v=[]:=List.length_eq_zero_iff.1 h0
      rw [this];rfl
     simp(maxSteps:=400000)only[↓aB,aC,BEq.rfl,reduceIte,reduceCtorEq,Nat.reduceLT,reduceAdd,reduceSub,reduceMul,Nat.reduceBEq,reduceLeDiff,reduceToNat,reduceLE,hQ,h0',hrf]
   · have h0':((0:Int)<(v.length:Int))=True:=eq_true (by omega)
     simp(maxSteps:=400000)only[↓aB,aC,BEq.rfl,reduceIte,reduceCtorEq,Nat.reduceLT,reduceAdd,reduceSub,reduceMul,Nat.reduceBEq,reduceLeDiff,reduceToNat,reduceLE,hQ,h0',hf,XO,↓tX]
     exact ⟨by rw [length_reverse];omega,by rw [hr,List.any_reverse]⟩
 have hlt:((i:Int)<(v.length:Int))=True:=eq_true (by omega)
 have zi:(0≤(i:Int))=True:=eq_true (by omega)
 have hgi:=List.getElem?_eq_getElem h
 have hdi:=List.drop_eq_getElem_cons h
 have htx:=hs.txt _ (List.getElem_mem h)
 generalize v[i]=n at hgi hdi htx
 simp(maxSteps:=400000)only[↓aB,aC,BEq.rfl,reduceIte,reduceCtorEq,Nat.reduceLT,reduceAdd,reduceSub,reduceMul,Nat.reduceBEq,reduceLeDiff,reduceToNat,reduceLE,hQ,hlt,zi,hgi,uP,uQ,bA,bB]
 rw [hdi] at hrun
 have hll:(n.many≤(v.length:Int))=(n.many≤(v.length:Int)):=rfl
 refine aA (fun m' S=>∃ (s':List zO) (IU:Nat),s'.length=m'∧s'.dropWhile (fun o=>o.left==0)=s.dropWhile (fun o=>o.left==0)∧s'.length≤i+1∧(∀ o ∈ s',0≤o.left∧o.left≤1000000)∧
  S=⟨dh 123 [(0,aD v),(3,.aY 0 IU),(5,.bM 1 1 0 0),(10,aD v),(11,.int .i64 v.length),(12,.int .i64 i)],[OQ s' IU,⟨42,6,[au n],true,1⟩]⟩) s.length ⟨s,ver,rfl,rfl,hsl,hle,?_⟩ ?_
 · simp only [bJ,keepR,reduceAdd,kU,Nat.reduceBEq,map_nil]
 rintro m' S ⟨s',IU,hm',hdw,ac0,hle',rfl⟩
 cases s' with
 | nil=>
  have h00:((0:Int)<((0:Nat):Int))=False:=eq_false (by omega)
  have h01:(((0:Nat):Int)=0)=True:=eq_true rfl
  have hr:dH v=false:=by rw [← hrun,Fe,← hdw];rfl
  unfold OQ
  simp(maxSteps:=400000)only[↓aB,aC,BEq.rfl,reduceIte,reduceCtorEq,Nat.reduceLT,reduceAdd,reduceSub,reduceMul,Nat.reduceBEq,reduceLeDiff,reduceToNat,reduceLE,hQ,h00,h01,hr,List.reverse_nil]
 | cons o t=>
 have hst:∀ w,OQ (o::t) w=⟨153,4,t.reverse.map iE++[iE o],true,w⟩:=fun w=>by simp [OQ]
 have hget:∀ x:PV,(t.reverse.map iE++[x])[t.length]?=some x:=fun x=>by rw [List.getElem?_append_right (by simp)];simp
 have hset:∀ x y:PV,(t.reverse.map iE++[x]).set t.length y=t.reverse.map iE++[y]:=fun x y=>by rw [List.set_append_right _ _ (by simp)];simp
 have hpos:((0:Int)<((t.length+1:Nat):Int))=True:=eq_true (by omega)
 have hne0:(((t.length+1:Nat):Int)=0)=False:=eq_false (by omega)
 have t1:(((t.length+1:Nat):Int)-1).toNat=t.length:=by omega
 have z1:(0≤((t.length+1:Nat):Int)-1)=True:=eq_true (by omega)
 have Yh:(((t.length+1:Nat):Int)-1<((t.length+1:Nat):Int))=True:=eq_true (by omega)
 have Yi:(((t.length+1:Nat):Int)-1≤((t.length+1:Nat):Int))=True:=eq_true (by omega)
 simp only [List.length_cons] at ac0 hm'
 have i1:(-9223372036854775808≤((t.length+1:Nat):Int)-1∧((t.length+1:Nat):Int)-1≤9223372036854775807)=True:=eq_true ⟨by omega,by omega⟩
 have hlo:=hle' o (by simp)
 by_cases h0:o.left=0
 · have h0':(o.left=0)=True:=eq_true h0
   rw [hst]
   simp(maxSteps:=400000)only[↓aB,aC,BEq.rfl,reduceIte,reduceCtorEq,Nat.reduceLT,reduceAdd,reduceSub,reduceMul,Nat.reduceBEq,reduceLeDiff,reduceToNat,reduceLE,hQ,hpos,t1,z1,Yh,Yi,i1,hget,hset,h0',CZ,length_reverse]
   refine ⟨m'-1,by omega,t,IU+1,by omega,?_,by omega,fun x hx=>hle' x (List.mem_cons_of_mem _ hx),?_⟩
   · rw [← hdw];exact (List.dropWhile_cons_of_pos (by simpa using h0)).symm
   · rw [List.take_left' (by simp)];rfl
 have h0':(o.left=0)=False:=eq_false h0
 have ac1:s.dropWhile (fun o=>o.left==0)=o::t:=by rw [← hdw];exact List.dropWhile_cons_of_neg (by simpa using h0)
 have hstep:dH v=(bE n && decide (n.many≤v.length) && fC o n.name && Fe v.length (⟨n.kind,n.many,true,[]⟩::⟨o.kind,o.left-1,false,n.name⟩::t) (v.drop (i+1))):=by
  rw [← hrun,Fe,ac1]
 rw [hst]
 cases hpl:bE n
 · have hr:dH v=false:=by rw [hstep,hpl];rfl
   simp(maxSteps:=400000)only[↓aB,aC,BEq.rfl,reduceIte,reduceCtorEq,Nat.reduceLT,reduceAdd,reduceSub,reduceMul,Nat.reduceBEq,reduceLeDiff,reduceToNat,reduceLE,hQ,hpos,hne0,t1,z1,Yh,Yi,i1,hget,hset,h0',CZ,length_reverse,↓fT,hpl,hr]
   exact htx.1
 by_cases hmL:n.many≤v.length
 rotate_left 1
 · have LF:((v.length:Int)<n.many)=True:=eq_true (by omega)
   have hr:dH v=false:=by rw [hstep,decide_eq_false hmL];simp
   simp(maxSteps:=400000)only[↓aB,aC,BEq.rfl,reduceIte,reduceCtorEq,Nat.reduceLT,reduceAdd,reduceSub,reduceMul,Nat.reduceBEq,reduceLeDiff,reduceToNat,reduceLE,hQ,hpos,hne0,t1,z1,Yh,Yi,i1,hget,hset,h0',CZ,length_reverse,↓fT,hpl,LF,hr]
   exact htx.1
 have LF:((v.length:Int)<n.many)=False:=eq_false (by omega)
 have hm0:0≤n.many:=by
  by_cases hk:n.kind=5∨n.kind=6
  · exact (BV hpl hk).1
  · rw [sN hpl hk];exact Int.le_refl 0
 have hA:∀ x y:zO,t.reverse.map iE++[iE x]++[iE y]=(t.reverse++[x,y]).map iE:=fun x y=>by simp
 have fin:∀ hn:fC o n.name=true,∃ acj,acj<m∧∃ (s:List zO) (EQ ver:Nat),EQ+acj=v.length∧Fe v.length s (v.drop EQ)=dH v∧s.length≤EQ+1∧(∀ o ∈ s,0≤o.left∧o.left≤1000000)∧
     (⟨dh 123 [(0,aD v),(3,.aY 0 (IU+1)),(10,aD v),(11,.int .i64 v.length),(12,.int .i64 ((i:Int)+1))],[⟨153,4,t.reverse.map iE++[iE ⟨o.kind,o.left-1,false,n.name⟩]++[iE ⟨n.kind,n.many,true,[]⟩],true,IU+1⟩]⟩:St)=
     ⟨dh 123 [(0,aD v),(3,.aY 0 ver),(10,aD v),(11,.int .i64 v.length),(12,.int .i64 EQ)],[OQ s ver]⟩:=fun hn=>by
  refine ⟨m-1,by omega,⟨n.kind,n.many,true,[]⟩::⟨o.kind,o.left-1,false,n.name⟩::t,i+1,IU+1,by omega,?_,by simp only [List.length_cons];omega,fun x hx=>?_,?_⟩
  · rw [hstep,hpl,hn,decide_eq_true hmL];simp
  · rcases List.mem_cons.1 hx with rfl | hx
    · exact ⟨hm0,by simp only;omega⟩
    · rcases List.mem_cons.1 hx with rfl | hx
      · simp only;omega
      · exact hle' x (List.mem_cons_of_mem _ hx)
  · simp [OQ]
 by_cases k6:o.kind=6
 rotate_left 1
 · have k6':(o.kind=6)=False:=eq_false k6
   by_cases hnm:n.name=[]
   rotate_left 1
   · have hnm':(n.name=[])=False:=eq_false hnm
     have hr:dH v=false:=by
      have:fC o n.name=false:=by simp [fC,k6,hnm]
      rw [hstep,this];simp
     simp(maxSteps:=400000)only[↓aB,aC,BEq.rfl,reduceIte,reduceCtorEq,Nat.reduceLT,reduceAdd,reduceSub,reduceMul,Nat.reduceBEq,reduceLeDiff,reduceToNat,reduceLE,hQ,hpos,hne0,t1,z1,Yh,Yi,i1,hget,hset,h0',CZ,length_reverse,↓fT,hpl,LF,k6',dJ,zu,nU,zOl,zOs,hnm',hr]
     exact htx.1
   · have hnm':(n.name=[])=True:=eq_true hnm
     simp(maxSteps:=400000)only[↓aB,aC,BEq.rfl,reduceIte,reduceCtorEq,Nat.reduceLT,reduceAdd,reduceSub,reduceMul,Nat.reduceBEq,reduceLeDiff,reduceToNat,reduceLE,hQ,hpos,hne0,t1,z1,Yh,Yi,i1,hget,hset,h0',CZ,length_reverse,↓fT,hpl,LF,k6',dJ,zu,nU,zOl,zOs,hnm']
     have hn:fC o n.name=true:=by simp [fC,k6,hnm]
     obtain ⟨m1,e0,s1,j1,w1,e1,e2,e3,e4,e5⟩:=fin hn
     refine ⟨htx.1,⟨by omega,by omega⟩,rfl,by omega,by omega,⟨by omega,by omega⟩,m1,e0,s1,j1,w1,e1,e2,e3,e4,?_⟩
     rw [← e5]
     simp only [hA,List.take_succ_cons,take_zero,map_cons (f:=fu _ _ _),map_nil,Gx]
     rfl
 have k6':(o.kind=6)=True:=eq_true k6
 cases hu:utf n.name
 · have hr:dH v=false:=by
    have:fC o n.name=false:=by simp [fC,k6,hu]
    rw [hstep,this];simp
   simp(maxSteps:=400000)only[↓aB,aC,BEq.rfl,reduceIte,reduceCtorEq,Nat.reduceLT,reduceAdd,reduceSub,reduceMul,Nat.reduceBEq,reduceLeDiff,reduceToNat,reduceLE,hQ,hpos,hne0,t1,z1,Yh,Yi,i1,hget,hset,h0',CZ,length_reverse,↓fT,hpl,LF,k6',dJ,zu,nU,zOl,zOs,↓cK,hu,hr]
   exact ⟨htx.1,htx.2⟩
 cases xS:o.first
 rotate_left 1
 · have hn:fC o n.name=true:=by simp [fC,k6,hu,xS]
   simp(maxSteps:=400000)only[↓aB,aC,BEq.rfl,reduceIte,reduceCtorEq,Nat.reduceLT,reduceAdd,reduceSub,reduceMul,Nat.reduceBEq,reduceLeDiff,reduceToNat,reduceLE,hQ,hpos,hne0,t1,z1,Yh,Yi,i1,hget,hset,h0',CZ,length_reverse,↓fT,hpl,LF,k6',dJ,zu,nU,zOl,zOs,↓cK,hu,xS]
   obtain ⟨m1,e0,s1,j1,w1,e1,e2,e3,e4,e5⟩:=fin hn
   refine ⟨htx.1,htx.2,⟨by omega,by omega⟩,rfl,by omega,by omega,⟨by omega,by omega⟩,m1,e0,s1,j1,w1,e1,e2,e3,e4,?_⟩
   rw [← e5]
   simp only [hA,List.take_succ_cons,take_zero,map_cons (f:=fu _ _ _),map_nil,Gx]
   rfl
 cases hbl:Op.bytesLess n.name o.last
 rotate_left 1
 · have hr:dH v=false:=by
    have:fC o n.name=false:=by simp [fC,k6,hu,xS,kH _ _ hbl]
    rw [hstep,this];simp
   simp(maxSteps:=400000)only[↓aB,aC,BEq.rfl,reduceIte,reduceCtorEq,Nat.reduceLT,reduceAdd,reduceSub,reduceMul,Nat.reduceBEq,reduceLeDiff,reduceToNat,reduceLE,hQ,hpos,hne0,t1,z1,Yh,Yi,i1,hget,hset,h0',CZ,length_reverse,↓fT,hpl,LF,k6',dJ,zu,nU,zOl,zOs,↓cK,hu,xS,hbl,hr]
   exact ⟨htx.1,htx.2⟩
 by_cases heq:n.name=o.last
 · have heq':(n.name=o.last)=True:=eq_true heq
   have hr:dH v=false:=by
    have:fC o n.name=false:=by simp [fC,k6,hu,xS,heq,dI]
    rw [hstep,this];simp
   simp(maxSteps:=400000)only[↓aB,aC,BEq.rfl,reduceIte,reduceCtorEq,Nat.reduceLT,reduceAdd,reduceSub,reduceMul,Nat.reduceBEq,reduceLeDiff,reduceToNat,reduceLE,hQ,hpos,hne0,t1,z1,Yh,Yi,i1,hget,hset,h0',CZ,length_reverse,↓fT,hpl,LF,k6',dJ,zu,nU,zOl,zOs,↓cK,hu,xS,hbl,heq',hr]
   exact ⟨htx.1,htx.2⟩
 · have heq':(n.name=o.last)=False:=eq_false heq
   have hn:fC o n.name=true:=by
    have:Op.bytesLess o.last n.name=true:=by
     rcases u6 o.last n.name with g | g | g
     · exact g
     · exact absurd g.symm heq
     · rw [g] at hbl;cases hbl
    simp [fC,k6,hu,this]
   simp(maxSteps:=400000)only[↓aB,aC,BEq.rfl,reduceIte,reduceCtorEq,Nat.reduceLT,reduceAdd,reduceSub,reduceMul,Nat.reduceBEq,reduceLeDiff,reduceToNat,reduceLE,hQ,hpos,hne0,t1,z1,Yh,Yi,i1,hget,hset,h0',CZ,length_reverse,↓fT,hpl,LF,k6',dJ,zu,nU,zOl,zOs,↓cK,hu,xS,hbl,heq']
   obtain ⟨m1,e0,s1,j1,w1,e1,e2,e3,e4,e5⟩:=fin hn
   refine ⟨htx.1,htx.2,⟨by omega,by omega⟩,rfl,by omega,by omega,⟨by omega,by omega⟩,m1,e0,s1,j1,w1,e1,e2,e3,e4,?_⟩
   rw [← e5]
   simp only [hA,List.take_succ_cons,take_zero,map_cons (f:=fu _ _ _),map_nil,Gx]
   rfl
def nV:dN:=fun args objs K=>match args with
 | [a0]=>gZ aD a0 (HK.mk:HK fun v=>(Small v)∧K (.bool (dH v)) objs 0)
 | _=>False
theorem Gy:aF Tryz.prog 105 (nV):=by
 intro args objs K h
 unfold nV at h
 split at h
 · rename_i a0
   obtain ⟨v,rfl,h1,hk⟩:=h
   exact ⟨_,_,_,.pure _ rfl (IQ v h1),hk⟩
 · exact h.elim
end Lp
namespace Lp
open Go Go.Proofs
open Nat (reduceAdd reduceLeDiff reduceMul reduceSub zero_le)
open Int (reduceEq reduceLE reduceToNat)
def si (n:Nd):Prop:=n.s.length≤4611686018427387904∧n.name.length≤4611686018427387904
theorem si.small {n:Nd}(h:si n):Small [n]:=⟨by simp,fun m hm=>by rw [List.mem_singleton] at hm;subst hm;exact h⟩
theorem OT (n:Nd) (h:si n):ah Tryz.prog 76 [au n] [] (.bool (qw n)) []:=by
 unfold qw
 refine F6.bg (T:=aQ Tryz.prog [(105,nV)]) 0 hD (aj (af Gy ai)) aV (by decide) fun Q hQ=>?_
 (conv=>arg 4;cbv);simp(maxSteps:=400000)only[↓aS,aT,BEq.rfl,reduceIte,reduceCtorEq,Nat.reduceLT,reduceAdd,reduceSub,reduceMul,Nat.reduceBEq,reduceLeDiff,reduceToNat,reduceLE,hQ]
 refine aR _ (Weak.freeze 1 0 (zero_le _) _) ?_
 rcases tf (n.kind<5) with hk | hk
 · simp(maxSteps:=400000)only[↓aS,aT,BEq.rfl,reduceIte,reduceCtorEq,Nat.reduceLT,reduceAdd,reduceSub,reduceMul,Nat.reduceBEq,reduceLeDiff,reduceToNat,reduceLE,hQ,jb,hk,↓nV,bA,bB,Bool.false_and]
   exact h.small
 · simp(maxSteps:=400000)only[↓aS,aT,BEq.rfl,reduceIte,reduceCtorEq,Nat.reduceLT,reduceAdd,reduceSub,reduceMul,Nat.reduceBEq,reduceLeDiff,reduceToNat,reduceLE,hQ,jb,hk,↓nV,bA,bB,Bool.false_and]
def pu:dN:=fun args objs K=>match args with
 | [a0]=>gZ au a0 (HK.mk:HK fun n=>(si n)∧K (.bool (qw n)) objs 0)
 | _=>False
theorem LG:aF Tryz.prog 76 (pu):=by
 intro args objs K h
 unfold pu at h
 split at h
 · rename_i a0
   obtain ⟨n,rfl,h1,hk⟩:=h
   exact ⟨_,_,_,.pure _ rfl (OT n h1),hk⟩
 · exact h.elim
theorem OU (n:Nd) (h:si n):ah Tryz.prog 62 [au n] [] (.bool (qw n)) []:=by
 unfold qw
 refine yU.bg (T:=aQ Tryz.prog [(16,wh)]) 0 hD (aj (af NV ai)) aV (by decide) fun Q hQ=>?_
 (conv=>arg 4;cbv);simp(maxSteps:=400000)only[↓aS,aT,BEq.rfl,reduceIte,reduceCtorEq,Nat.reduceLT,reduceAdd,reduceSub,reduceMul,Nat.reduceBEq,reduceLeDiff,reduceToNat,reduceLE,hQ]
 refine aR _ (Weak.freeze 1 0 (zero_le _) _) ?_
 rcases tf (n.kind<5) with hk | hk
 · simp(maxSteps:=400000)only[↓aS,aT,BEq.rfl,reduceIte,reduceCtorEq,Nat.reduceLT,reduceAdd,reduceSub,reduceMul,Nat.reduceBEq,reduceLeDiff,reduceToNat,reduceLE,hQ,jb,hk,↓wh,bA,bB,Bool.false_and]
   exact h.small
 · simp(maxSteps:=400000)only[↓aS,aT,BEq.rfl,reduceIte,reduceCtorEq,Nat.reduceLT,reduceAdd,reduceSub,reduceMul,Nat.reduceBEq,reduceLeDiff,reduceToNat,reduceLE,hQ,jb,hk,↓wh,bA,bB,Bool.false_and]
def lu:dN:=fun args objs K=>match args with
 | [a0]=>gZ au a0 (HK.mk:HK fun n=>(si n)∧K (.bool (qw n)) objs 0)
 | _=>False
theorem Bo:aF Tryz.prog 62 (lu):=by
 intro args objs K h
 unfold lu at h
 split at h
 · rename_i a0
   obtain ⟨n,rfl,h1,hk⟩:=h
   exact ⟨_,_,_,.pure _ rfl (OU n h1),hk⟩
 · exact h.elim
theorem OV (a:lJ) (h:si a.c):ah Tryz.prog 98 [dL a] [] (.bool (nY a)) []:=by
 unfold nY
 refine yV.bg (T:=aQ Tryz.prog [(62,lu)]) 0 hD (aj (af Bo ai)) aV (by decide) fun Q hQ=>?_
 (conv=>arg 4;cbv);simp(maxSteps:=400000)only[↓aS,aT,BEq.rfl,reduceIte,reduceCtorEq,Nat.reduceLT,reduceAdd,reduceSub,reduceMul,Nat.reduceBEq,reduceLeDiff,reduceToNat,reduceLE,hQ]
 refine aR _ (Weak.freeze 1 0 (zero_le _) _) ?_
 rcases tf (0≤a.n) with h1 | h1
 rotate_left 1
 · simp(maxSteps:=400000)only[↓aS,aT,BEq.rfl,reduceIte,reduceCtorEq,Nat.reduceLT,reduceAdd,reduceSub,reduceMul,Nat.reduceBEq,reduceLeDiff,reduceToNat,reduceLE,hQ,Te,h1,Bool.false_and]
 rcases tf (a.n≤5) with h2 | h2
 rotate_left 1
 · simp(maxSteps:=400000)only[↓aS,aT,BEq.rfl,reduceIte,reduceCtorEq,Nat.reduceLT,reduceAdd,reduceSub,reduceMul,Nat.reduceBEq,reduceLeDiff,reduceToNat,reduceLE,hQ,Te,h1,h2,Bool.false_and,Bool.and_false]
 simp(maxSteps:=400000)only[↓aS,aT,BEq.rfl,reduceIte,reduceCtorEq,Nat.reduceLT,reduceAdd,reduceSub,reduceMul,Nat.reduceBEq,reduceLeDiff,reduceToNat,reduceLE,hQ,Te,h1,h2,↓lu]
 exact h
def sj:dN:=fun args objs K=>match args with
 | [a0]=>gZ dL a0 (HK.mk:HK fun a=>(si a.c)∧K (.bool (nY a)) objs 0)
 | _=>False
theorem LH:aF Tryz.prog 98 (sj):=by
 intro args objs K h
 unfold sj at h
 split at h
 · rename_i a0
   obtain ⟨a,rfl,h1,hk⟩:=h
   exact ⟨_,_,_,.pure _ rfl (OV a h1),hk⟩
 · exact h.elim
theorem Gz (how c:Int):(how=0∧nH how c=decide (c=0))∨(how=1∧nH how c=!decide (c=0))∨(how=2∧nH how c=decide (c<0))∨(how=3∧nH how c=decide (c≤0))∨(how=4∧nH how c=decide (0<c))∨
  ((how=0)=False∧(how=1)=False∧(how=2)=False∧(how=3)=False∧(how=4)=False∧nH how c=decide (0≤c)):=by
 by_cases h0:how=0
 · exact .inl ⟨h0,by simp [nH,h0]⟩
 by_cases h1:how=1
 · exact .inr (.inl ⟨h1,by simp [nH,h1]⟩)
 by_cases h2:how=2
 · exact .inr (.inr (.inl ⟨h2,by simp [nH,h2]⟩))
 by_cases h3:how=3
 · exact .inr (.inr (.inr (.inl ⟨h3,by simp [nH,h3]⟩)))
 by_cases h4:how=4
 · exact .inr (.inr (.inr (.inr (.inl ⟨h4,by simp [nH,h4]⟩))))
 · exact .inr (.inr (.inr (.inr (.inr ⟨eq_false h0,eq_false h1,eq_false h2,eq_false h3,eq_false h4,by simp [nH,h0,h1,h2,h3,h4]⟩))))
theorem Vn (how c:Int):ah Tryz.prog 89 [.int .i64 how,.int .i64 c] [] (.bool (nH how c)) []:=by
 refine Av.bg (T:=aQ Tryz.prog []) 0 hD (aj ai) aV (by decide) fun Q hQ=>?_
 rcases Gz how c with ⟨h,hr⟩ | ⟨h,hr⟩ | ⟨h,hr⟩ | ⟨h,hr⟩ | ⟨h,hr⟩ | ⟨k0,k1,k2,k3,k4,hr⟩
 · rw [h] at hr
   (conv=>arg 4;cbv);simp(maxSteps:=400000)only[↓aS,aT,BEq.rfl,reduceIte,reduceCtorEq,Nat.reduceLT,reduceAdd,reduceSub,reduceMul,Nat.reduceBEq,reduceLeDiff,reduceToNat,reduceLE,hQ,hr,h]
 · rw [h] at hr
   (conv=>arg 4;cbv);simp(maxSteps:=400000)only[↓aS,aT,BEq.rfl,reduceIte,reduceCtorEq,Nat.reduceLT,reduceAdd,reduceSub,reduceMul,Nat.reduceBEq,reduceLeDiff,reduceToNat,reduceLE,hQ,hr,h,reduceEq]
 · rw [h] at hr
   (conv=>arg 4;cbv);simp(maxSteps:=400000)only[↓aS,aT,BEq.rfl,reduceIte,reduceCtorEq,Nat.reduceLT,reduceAdd,reduceSub,reduceMul,Nat.reduceBEq,reduceLeDiff,reduceToNat,reduceLE,hQ,hr,h,reduceEq]
 · rw [h] at hr
   (conv=>arg 4;cbv);simp(maxSteps:=400000)only[↓aS,aT,BEq.rfl,reduceIte,reduceCtorEq,Nat.reduceLT,reduceAdd,reduceSub,reduceMul,Nat.reduceBEq,reduceLeDiff,reduceToNat,reduceLE,hQ,hr,h,reduceEq]
 · rw [h] at hr
   (conv=>arg 4;cbv);simp(maxSteps:=400000)only[↓aS,aT,BEq.rfl,reduceIte,reduceCtorEq,Nat.reduceLT,reduceAdd,reduceSub,reduceMul,Nat.reduceBEq,reduceLeDiff,reduceToNat,reduceLE,hQ,hr,h,reduceEq]
 · (conv=>arg 4;cbv);simp(maxSteps:=400000)only[↓aS,aT,BEq.rfl,reduceIte,reduceCtorEq,Nat.reduceLT,reduceAdd,reduceSub,reduceMul,Nat.reduceBEq,reduceLeDiff,reduceToNat,reduceLE,hQ,k0,k1,k2,k3,k4,hr]
def EY:dN:=fun args objs K=>match args with
 | [.int .i64 how,.int .i64 c]=>K (.bool (nH how c)) objs 0
 | _=>False
theorem Ro:aF Tryz.prog 89 (EY):=by
 intro args objs K h
 unfold EY at h
 split at h
 · rename_i how c
   have hk:=h
   exact ⟨_,_,_,.pure _ rfl (Vn how c),hk⟩
 · exact h.elim
structure fB (n:Nd):Prop where
 sc:qw n=true
 len:n.s.length≤1000000
theorem fB.few {n:Nd}(h:fB n):aci [n] 1:=by
 have hr:dH [n]=true:=by
  have:=h.sc
  simp only [qw,Bool.and_eq_true] at this
  exact this.2
 have hrt:=wG hr
 have hpl:=Lu hr
 refine ⟨by simp,hrt,⟨hrt.one,by simp,fun m hm=>?_⟩,⟨hrt.one,by simp,fun m hm hk3=>Tt (pY (hpl m hm) hk3)⟩⟩
 have hp:=hpl m hm
 rw [List.mem_singleton] at hm
 subst hm
 exact Vj hp h.len
theorem OW (a:lJ) (n:Nd) (ha:fB a.c) (hn:fB n):ah Tryz.prog 79 [dL a,au n] [] (.bool (j_ a n)) []:=by
 obtain ⟨f,hf⟩:∃ f:Nat,f=1:=⟨1,rfl⟩
 have hh:j_ a n=nH a.n (qY f [n] [a.c]):=by rw [hf];rfl
 rw [hh]
 have hl:[n].length≤f:=by rw [hf];exact Nat.le_refl _
 have o1:=hn.few.ok
 have o2:=ha.few.ok
 refine KR.bg (T:=aQ Tryz.prog [(107,(xh f))]) 0 hD (aj (af (Lr f) ai)) aV (by decide) fun Q hQ=>?_
 generalize hc:qY f [n] [a.c]=c
 (conv=>arg 4;cbv);simp(maxSteps:=400000)only[↓aS,aT,BEq.rfl,reduceIte,reduceCtorEq,Nat.reduceLT,reduceAdd,reduceSub,reduceMul,Nat.reduceBEq,reduceLeDiff,reduceToNat,reduceLE,hQ]
 refine aR _ (Weak.freeze 1 0 (zero_le _) _) ?_
 simp(maxSteps:=400000)only[↓aS,aT,BEq.rfl,reduceIte,reduceCtorEq,Nat.reduceLT,reduceAdd,reduceSub,reduceMul,Nat.reduceBEq,reduceLeDiff,reduceToNat,reduceLE,hQ,Xd,Xe,↓xh,hc,bA,bB]
 refine ⟨hl,o1,o2,?_⟩
 rcases Gz a.n c with ⟨h,hr⟩ | ⟨h,hr⟩ | ⟨h,hr⟩ | ⟨h,hr⟩ | ⟨h,hr⟩ | ⟨k0,k1,k2,k3,k4,hr⟩
 · rw [h] at hr
   simp(maxSteps:=400000)only[↓aS,aT,BEq.rfl,reduceIte,reduceCtorEq,Nat.reduceLT,reduceAdd,reduceSub,reduceMul,Nat.reduceBEq,reduceLeDiff,reduceToNat,reduceLE,hQ,hr,h]
 · rw [h] at hr
   simp(maxSteps:=400000)only[↓aS,aT,BEq.rfl,reduceIte,reduceCtorEq,Nat.reduceLT,reduceAdd,reduceSub,reduceMul,Nat.reduceBEq,reduceLeDiff,reduceToNat,reduceLE,hQ,hr,h,reduceEq]
 · rw [h] at hr
   simp(maxSteps:=400000)only[↓aS,aT,BEq.rfl,reduceIte,reduceCtorEq,Nat.reduceLT,reduceAdd,reduceSub,reduceMul,Nat.reduceBEq,reduceLeDiff,reduceToNat,reduceLE,hQ,hr,h,reduceEq]
 · rw [h] at hr
   simp(maxSteps:=400000)only[↓aS,aT,BEq.rfl,reduceIte,reduceCtorEq,Nat.reduceLT,reduceAdd,reduceSub,reduceMul,Nat.reduceBEq,reduceLeDiff,reduceToNat,reduceLE,hQ,hr,h,reduceEq]
 · rw [h] at hr
   simp(maxSteps:=400000)only[↓aS,aT,BEq.rfl,reduceIte,reduceCtorEq,Nat.reduceLT,reduceAdd,reduceSub,reduceMul,Nat.reduceBEq,reduceLeDiff,reduceToNat,reduceLE,hQ,hr,h,reduceEq]
 · simp(maxSteps:=400000)only[↓aS,aT,BEq.rfl,reduceIte,reduceCtorEq,Nat.reduceLT,reduceAdd,reduceSub,reduceMul,Nat.reduceBEq,reduceLeDiff,reduceToNat,reduceLE,hQ,k0,k1,k2,k3,k4,hr]
def xu:dN:=fun args objs K=>match args with
 | [a0,a1]=>gZ dL a0 (HK.mk:HK fun a=>gZ au a1 (HK.mk:HK fun n=>(fB a.c)∧(fB n)∧K (.bool (j_ a n)) objs 0))
 | _=>False
theorem LJ:aF Tryz.prog 79 (xu):=by
 intro args objs K h
 unfold xu at h
 split at h
 · rename_i a0 a1
   obtain ⟨a,rfl,n,rfl,h1,h2,hk⟩:=h
   exact ⟨_,_,_,.pure _ rfl (OW a n h1 h2),hk⟩
 · exact h.elim
theorem OX (a:lJ) (n:Nd) (ha:fB a.c) (hn:fB n):ah Tryz.prog 64 [dL a,au n] [] (.bool (j_ a n)) []:=by
 obtain ⟨f,hf⟩:∃ f:Nat,f=1:=⟨1,rfl⟩
 have hh:j_ a n=nH a.n (jl kV f [n] [a.c]):=by rw [hf,OO 1 _ _ hn.few.rt ha.few.rt];rfl
 rw [hh]
 have hl:[n].length≤f:=by rw [hf];exact Nat.le_refl _
 have o1:=hn.few.ok2
 have o2:=ha.few.ok2
 refine yX.bg (T:=aQ Tryz.prog [(67,(EX f)),(89,EY)]) 0 hD (aj (af (Rl f) (af Ro ai))) aV (by decide) fun Q hQ=>?_
 (conv=>arg 4;cbv);simp(maxSteps:=400000)only[↓aS,aT,BEq.rfl,reduceIte,reduceCtorEq,Nat.reduceLT,reduceAdd,reduceSub,reduceMul,Nat.reduceBEq,reduceLeDiff,reduceToNat,reduceLE,hQ]
 refine aR _ (Weak.freeze 1 0 (zero_le _) _) ?_
 simp(maxSteps:=400000)only[↓aS,aT,BEq.rfl,reduceIte,reduceCtorEq,Nat.reduceLT,reduceAdd,reduceSub,reduceMul,Nat.reduceBEq,reduceLeDiff,reduceToNat,reduceLE,hQ,Xd,Xe,↓EX,↓EY,bA,bB]
 exact ⟨hl,o1,o2⟩
def su:dN:=fun args objs K=>match args with
 | [a0,a1]=>gZ dL a0 (HK.mk:HK fun a=>gZ au a1 (HK.mk:HK fun n=>(fB a.c)∧(fB n)∧K (.bool (j_ a n)) objs 0))
 | _=>False
theorem LK:aF Tryz.prog 64 (su):=by
 intro args objs K h
 unfold su at h
 split at h
 · rename_i a0 a1
   obtain ⟨a,rfl,n,rfl,h1,h2,hk⟩:=h
   exact ⟨_,_,_,.pure _ rfl (OX a n h1 h2),hk⟩
 · exact h.elim
end Lp
namespace Lp
open Go Go.Proofs
theorem Rp (names:List (List UInt8)) (l:List Vl) (hn:names.length=l.length) (hl:l.length≤1000000) (hb:l.flatten.length≤1000000) (hne:∀ v ∈ l,v≠[]):ah Tryz.prog 47 [cZ names,dK l] [] (.aY 0 0) [El (D6 names l) 0]:=by
 refine yT.JN (T:=aQ Tryz.prog []) 1 hD (aj ai) aV fun Q hQ=>?_
 (conv=>arg 4;cbv);simp(maxSteps:=400000)only[↓aB,aC,BEq.rfl,reduceIte,reduceCtorEq,Nat.reduceLT,Nat.reduceAdd,Nat.reduceSub,Nat.reduceMul,Nat.reduceBEq,Nat.reduceLeDiff,Int.reduceToNat,Int.reduceLE,hQ,uP,uQ]
 refine aA (fun m S=>∃ i ver:Nat,i+m=l.length∧S=⟨dh 41 [(0,cZ names),(1,dK l),(5,.aY 0 ver),(6,.int .i64 i)],[⟨42,6,((⟨6,l.length,[],[],false,0⟩:Nd)::(List.zipWith qi (names.take i) (l.take i)).flatten).map au,true,ver⟩]⟩) l.length ⟨0,1,by omega,?_⟩ ?_ (hz:=Nat.zero_le _)
 · simp only [bJ,keepR,Nat.reduceAdd,kU,Nat.reduceBEq,List.map_nil]
   rfl
 rintro m S ⟨i,ver,him,rfl⟩
 rcases Nat.lt_or_ge i l.length with h | h
 rotate_left 1
 · have hlt:((i:Int)<(l.length:Int))=False:=eq_false (by omega)
   simp(maxSteps:=400000)only[↓aB,aC,BEq.rfl,reduceIte,reduceCtorEq,Nat.reduceLT,Nat.reduceAdd,Nat.reduceSub,Nat.reduceMul,Nat.reduceBEq,Nat.reduceLeDiff,Int.reduceToNat,Int.reduceLE,hQ,hlt]
   rw [List.take_of_length_le h,List.take_of_length_le (by omega)]
   exact QB (k:=0) (ver:=ver) rfl rfl rfl rfl (congrArg (fun o:Obj=>{ o with ver:=0 }) (gM 1 1 _ 42 6 (D6 names l) ver)) (ng _ 0)
 have hlt:((i:Int)<(l.length:Int))=True:=eq_true (by omega)
 have hgi:=List.getElem?_eq_getElem h
 have hgn:names[i]?=some (names[i]'(by omega)):=List.getElem?_eq_getElem (by omega)
 have hv:=hne _ (List.getElem_mem h)
 generalize l[i]=v at hgi hv
 generalize names[i]'(by omega)=nm at hgn
 have hz:=acf hgn hgi
 have hf:=rY l hgi
 have hf2:=AZ (names.take i) (l.take i)
 generalize hA:(List.zipWith qi (names.take i) (l.take i)).flatten=A at *
 obtain ⟨n,r,rfl⟩:∃ n r,v=n::r:=by
  cases v with
  | nil=>exact absurd rfl hv
  | cons n r=>exact ⟨n,r,rfl⟩
 have hf3:A.length+(r.length+1)≤1000000:=by rw [List.length_cons] at hf;omega
 have zi:(0≤(i:Int))=True:=eq_true (by omega)
 have hgA:(List.map au A++au n::List.map au r)[A.length]?=some (au n):=by simp
 simp(maxSteps:=400000)only[↓aB,aC,BEq.rfl,reduceIte,reduceCtorEq,Nat.reduceLT,Nat.reduceAdd,Nat.reduceSub,Nat.reduceMul,Nat.reduceBEq,Nat.reduceLeDiff,Int.reduceToNat,Int.reduceLE,hQ,hlt,zi,hgi,hgn,uP,uQ,hgA,bA,bB,nmP]
 have hset:∀ hd:Nd,au hd::(List.map au A++au n::List.map au r).set A.length (au { kind:=n.kind,many:=n.many,name:=nm,s:=n.s,neg:=n.neg,e:=n.e })=(hd::(A++qi nm (n::r))).map au:=fun hd=>by
  rw [List.map_cons,← Oe];rfl
 refine ⟨Xk n r ▸ trivial,by omega,by omega,by omega,by omega,by omega,by omega,⟨by omega,by omega⟩,m-1,by omega,i+1,ver+1,by omega,?_⟩
 rw [hset,hz,List.flatten_append,hA]
 simp only [List.take_succ_cons,List.take_zero,List.map_cons (f:=fu _ _ _),List.map_nil,gM,List.flatten_cons,List.flatten_nil,List.append_nil]
 rfl
end Lp
namespace Lp
open Go
structure OY (names:List (List UInt8)) (l:List Vl) (q:wH) (done:List Bool) (m:Nat):Prop where
 par:names.length=l.length
 len:done.length=names.length
 cnt:q.length+m=names.length
 left:done.count false=m
 mem:∀ x:List UInt8×Vl,x ∈ q↔∃ i:Nat,done[i]?=some true∧names[i]?=some x.1∧l[i]?=some x.2
 rise:qh (q.map (·.1))
 utf:∀ x ∈ q,utf x.1=true
 low:∀ (i:Nat) nm,done[i]?=some false→names[i]?=some nm→∀ x ∈ q,Op.bytesLess nm x.1=false
 one:∀ (i j:Nat) nm,done[i]?=some true→done[j]?=some true→names[i]?=some nm→names[j]?=some nm→i=j
theorem OY.init (names:List (List UInt8)) (l:List Vl) (hp:names.length=l.length):OY names l [] (List.replicate names.length false) names.length:=by
 have hno:∀ i:Nat,(List.replicate names.length false)[i]?≠some true:=fun i h=>by
  rw [List.getElem?_replicate] at h
  split at h <;> cases h
 refine ⟨hp,by simp,by simp,by simp,fun x=>⟨fun h=>(List.not_mem_nil h).elim,fun ⟨i,h,_⟩=>absurd h (hno i)⟩,List.Pairwise.nil,fun x h=>(List.not_mem_nil h).elim,fun _ _ _ _ x h=>(List.not_mem_nil h).elim,fun i j nm h=>absurd h (hno i)⟩
theorem OY.above {names:List (List UInt8)}{l:List Vl}{q:wH}{done:List Bool}{m:Nat}(h:OY names l q done m){b:Nat}{nm:List UInt8}(hb:done[b]?=some false) (hn:names[b]?=some nm)
  (hl:∀ x,q.getLast?=some x→x.1≠nm):∀ x ∈ q,Op.bytesLess x.1 nm=true:=by
 have hlow:=h.low b nm hb hn
 rcases List.eq_nil_or_concat q with rfl | ⟨q',z,rfl⟩
 · intro x hx;cases hx
 rw [List.concat_eq_append] at *
 have hz:z ∈ q'++[z]:=by simp
 have hzl:Op.bytesLess z.1 nm=true:=by
  rcases u6 z.1 nm with g | g | g
  · exact g
  · exact absurd g (hl z (by simp))
  · rw [hlow z hz] at g;cases g
 intro x hx
 have hr:=h.rise
 rw [List.map_append] at hr
 rcases List.mem_append.1 hx with hx | hx
 · exact kG _ _ _ ((List.pairwise_append.1 hr).2.2 x.1 (List.mem_map.2 ⟨x,hx,rfl⟩) z.1 (by simp)) hzl
 · simp only [List.mem_singleton] at hx
   subst hx;exact hzl
theorem OY.step {names:List (List UInt8)}{l:List Vl}{q:wH}{done:List Bool}{m:Nat}(h:OY names l q done (m+1)){b:Nat}{nm:List UInt8}{v:Vl}(hb:done[b]?=some false) (hn:names[b]?=some nm) (hv:l[b]?=some v)
  (hmin:∀ (i:Nat) vV,done[i]?=some false→names[i]?=some vV→Op.bytesLess vV nm=false) (hu:Lp.utf nm=true) (hl:∀ x,q.getLast?=some x→x.1≠nm) :
  OY names l (q++[(nm,v)]) (done.set b true) m:=by
 have hbl:=(List.getElem?_eq_some_iff.1 hb).1
 have hab:=h.above hb hn hl
 have hset:∀ i c,(done.set b true)[i]?=some c→(i=b∧c=true)∨(i≠b∧done[i]?=some c):=fun i c hc=>by
  rw [List.getElem?_set] at hc
  split at hc
  · rename_i e
    subst e
    exact .inl ⟨rfl,by simpa [hbl] using hc.symm⟩
  · rename_i e
    exact .inr ⟨fun e'=>e e'.symm,hc⟩
 have hset':∀ i c,i≠b→done[i]?=some c→(done.set b true)[i]?=some c:=fun i c hi hc=>by
  rw [List.getElem?_set_ne (fun e=>hi e.symm)];exact hc
 have hsb:(done.set b true)[b]?=some true:=by rw [List.getElem?_set_self hbl]
 refine ⟨h.par,by simp [h.len],by have:=h.cnt;simp;omega,?_,fun x=>?_,?_,?_,?_,?_⟩
 · have h1:=h.left
   have e:done=done.take b++false::done.drop (b+1):=by
    have:=List.getElem?_eq_some_iff.1 hb
    obtain ⟨_,e⟩:=this
    conv=>lhs;rw [← List.take_append_drop b done,List.drop_eq_getElem_cons hbl,e]
   have e2:done.set b true=done.take b++true::done.drop (b+1):=by
    rw [List.set_eq_take_append_cons_drop,if_pos hbl]
   rw [e2,List.count_append,List.count_cons]
   rw [e,List.count_append,List.count_cons] at h1
   simp at h1 ⊢
   omega
 · rw [List.mem_append,h.mem]
   constructor
   · rintro (⟨i,h1,h2,h3⟩ | hx)
     · have:i≠b:=fun e=>by subst e;rw [hb] at h1;cases h1
       exact ⟨i,hset' i _ this h1,h2,h3⟩
     · simp only [List.mem_singleton] at hx
       subst hx
       exact ⟨b,hsb,hn,hv⟩
   · rintro ⟨i,h1,h2,h3⟩
     rcases hset i _ h1 with ⟨rfl,_⟩ | ⟨hi,hd⟩
     · right
       rw [hn] at h2;rw [hv] at h3
       simp only [Option.some.injEq] at h2 h3
       simp [h2,h3]
     · exact .inl ⟨i,hd,h2,h3⟩
 · rw [List.map_append]
   refine List.pairwise_append.2 ⟨h.rise,by simp,fun x hx y hy=>?_⟩
   simp only [List.map_cons,List.map_nil,List.mem_singleton] at hy
   subst hy
   obtain ⟨z,hz,rfl⟩:=List.mem_map.1 hx
   exact hab z hz
 · intro x hx
   rcases List.mem_append.1 hx with hx | hx
   · exact h.utf x hx
   · simp only [List.mem_singleton] at hx
     subst hx;exact hu
 · intro i vV h1 h2 x hx
   rcases hset i _ h1 with ⟨_,hc⟩ | ⟨hi,hd⟩
   · cases hc
   · rcases List.mem_append.1 hx with hx | hx
     · exact h.low i vV hd h2 x hx
     · simp only [List.mem_singleton] at hx
       subst hx
       exact hmin i vV hd h2
 · intro i j vV h1 h2 h3 h4
   have key:∀ k,k≠b→done[k]?=some true→names[k]?=some vV→vV≠nm:=fun k hk hd hnk e=>by
    subst e
    have hkl:k<l.length:=by rw [← h.par];exact (List.getElem?_eq_some_iff.1 hnk).1
    have:=hab (vV,l[k]) ((h.mem _).2 ⟨k,hd,hnk,List.getElem?_eq_getElem hkl⟩)
    rw [dI] at this;cases this
   rcases hset i _ h1 with ⟨rfl,_⟩ | ⟨hi,hd⟩
   · rcases hset j _ h2 with ⟨rfl,_⟩ | ⟨hj,hd'⟩
     · rfl
     · rw [hn] at h3
       simp only [Option.some.injEq] at h3
       exact absurd h3.symm (key j hj hd' h4)
   · rcases hset j _ h2 with ⟨rfl,_⟩ | ⟨hj,hd'⟩
     · rw [hn] at h4
       simp only [Option.some.injEq] at h4
       exact absurd h4.symm (key i hi hd h3)
     · exact h.one i j vV hd hd' h3 h4
theorem OY.all {names:List (List UInt8)}{l:List Vl}{q:wH}{done:List Bool}(h:OY names l q done 0){i:Nat}(hi:i<names.length):done[i]?=some true:=by
 have h1:=List.getElem?_eq_getElem (by rw [h.len];exact hi:i<done.length)
 rw [h1]
 cases hd:done[i]'(by rw [h.len];exact hi) with
 | true=>rfl
 | false=>
  have:=h.left
  rw [List.count_eq_zero] at this
  exact absurd (by rw [← hd];exact List.getElem_mem _) this
theorem OY.end {names:List (List UInt8)}{l:List Vl}{q:wH}{done:List Bool}(h:OY names l q done 0):dX names l.length=true∧q=D7 (names.zip l):=by
 have hq:∀ (i:Nat) (hi:i<names.length),(names[i],l[i]'(by rw [← h.par];exact hi)) ∈ q:=fun i hi=>
  (h.mem _).2 ⟨i,h.all hi,List.getElem?_eq_getElem hi,List.getElem?_eq_getElem _⟩
 have hok:dX names l.length=true:=by
  rw [iy]
  refine ⟨h.par,?_,fun x hx=>?_⟩
  · refine List.pairwise_iff_getElem.2 fun i j hi hj hij e=>?_
    have:=h.one i j names[i] (h.all hi) (h.all hj) (List.getElem?_eq_getElem hi) (by rw [e];exact List.getElem?_eq_getElem hj)
    omega
  · obtain ⟨i,hi,rfl⟩:=List.mem_iff_getElem.1 hx
    exact h.utf _ (hq i hi)
 refine ⟨hok,Dh hok h.rise fun x=>?_⟩
 constructor
 · intro hx
   obtain ⟨i,_,h2,h3⟩:=(h.mem x).1 hx
   refine List.mem_iff_getElem?.2 ⟨i,?_⟩
   rw [List.getElem?_zip_eq_some]
   exact ⟨h2,h3⟩
 · intro hx
   obtain ⟨i,hi⟩:=List.mem_iff_getElem?.1 hx
   rw [List.getElem?_zip_eq_some] at hi
   exact (h.mem x).2 ⟨i,h.all (List.getElem?_eq_some_iff.1 hi.1).1,hi.1,hi.2⟩
theorem Za {names:List (List UInt8)}{k:Nat}{b:Nat}{nm:List UInt8}(hn:names[b]?=some nm) (hu:Lp.utf nm=false):dX names k=false:=by
 cases hh:dX names k with
 | false=>rfl
 | true=>
  have:=(iy.1 hh).2.2 nm (List.mem_of_getElem? hn)
  rw [hu] at this;cases this
theorem OY.twice {names:List (List UInt8)}{l:List Vl}{q:wH}{done:List Bool}{m:Nat}(h:OY names l q done m){b:Nat}{nm:List UInt8}(hb:done[b]?=some false) (hn:names[b]?=some nm){x:List UInt8×Vl}(hx:x ∈ q) (he:x.1=nm) (k:Nat):dX names k=false:=by
 cases hh:dX names k with
 | false=>rfl
 | true=>
  obtain ⟨i,h1,h2,_⟩:=(h.mem x).1 hx
  have hnd:=(iy.1 hh).2.1
  have hib:i≠b:=fun e=>by subst e;rw [hb] at h1;cases h1
  rw [he] at h2
  obtain ⟨hi,e1⟩:=List.getElem?_eq_some_iff.1 h2
  obtain ⟨hj,e2⟩:=List.getElem?_eq_some_iff.1 hn
  have hpw:=List.pairwise_iff_getElem.1 hnd
  rcases Nat.lt_trichotomy i b with g | g | g
  · exact absurd (e1.trans e2.symm) (hpw i b hi hj g)
  · exact absurd g hib
  · exact absurd (e2.trans e1.symm) (hpw b i hj hi g)
theorem OY.some {names:List (List UInt8)}{l:List Vl}{q:wH}{done:List Bool}{m:Nat}(h:OY names l q done (m+1)):∃ i:Nat,done[i]?=Option.some false:=by
 have:0<done.count false:=by rw [h.left];omega
 exact List.mem_iff_getElem?.1 (List.count_pos_iff.1 this)
end Lp
namespace Lp
open Go Go.Proofs
open Nat (lt_or_ge reduceAdd reduceLeDiff reduceMul reduceSub)
open Int (reduceLE reduceToNat)
theorem p8 {α:Type}{f:PV→PV}(enc:α→PV) (h:∀ x,(enc x).bC f=enc x) (l:List α):(l.map enc).map (PV.bC f)=l.map enc:=by
 rw [List.map_map]
 exact List.map_congr_left fun x _=>h x
def Em (names:List (List UInt8)) (l:List Vl):PV:=if dX names l.length then .bU [aD (gG names l),.int .i64 0] else .bU [.sl 0 [] (some true),.int .i64 4]
def OZ (q:wH) (done:List Bool) (v1 v2:Nat):List Obj:=[⟨9,1,(q.map (·.1)).map .str,true,v1⟩,⟨28,1,(q.map (·.2)).map aD,true,v2⟩,⟨4,1,done.map .bool,true,1⟩]
def pz:dN:=fun args objs K=>match args with
 | [a,b]=>A7 .str 1 a objs (HK.mk:HK fun names=>A7 aD 1 b objs (HK.mk:HK fun l=>names.length=l.length∧l.length≤1000000∧l.flatten.length≤1000000∧(∀ v ∈ l,v≠[])∧K (.aY objs.length 0) (objs++[El (D6 names l) 0]) 2))
 | _=>False
theorem Bp:aF Tryz.prog 47 pz:=by
 intro args objs K h
 unfold pz at h
 split at h
 · obtain ⟨names,a',l1,t1,h⟩:=tO strCells h
   obtain ⟨l,b',l2,t2,h1,h2,h3,h4,h5⟩:=tO Og h
   exact ⟨_,_,_,.Nf 0 _ [a',b'] ⟨l1,l2,trivial⟩ (zh _ _) ((Rp names l h1 h2 h3 h4).arg rfl (JV t1 t2)),h5⟩
 · exact h.elim
theorem wz (names:List (List UInt8)) (l:List Vl) (hn:names.length≤1000000) (_hl:l.length≤1000000) (hb:l.flatten.length≤1000000) (hne:∀ v ∈ l,v≠[]) (htx:∀ s ∈ names,s.length≤4611686018427387904)
  (Q:Exit→St→Prop) (R:List (Nat×PV)→List Obj→Prop) (hQ:∀ t ob,Q .ret ⟨dh 97 t,ob⟩=R t ob)
  (hbad:dX names l.length=false→∀ t ob,j4 t 4=.sl 0 [] (some true)→j4 t 5=.int .i64 4→R t ob)
  (hgood:dX names l.length=true→∀ t x y z,j4 t 4=.aY 3 0→j4 t 5=.int .i64 0→R t [x,y,z,El (gG names l) 0]) :
  kE Tryz.prog D (aQ Tryz.prog [(46,d9),(47,pz)]) oo Q (bS [cZ names,dK l] 97):=by
 by_cases hp:names.length=l.length
 rotate_left 1
 · have hl':((names.length:Int)=(l.length:Int))=False:=eq_false (by omega)
   have hr:dX names l.length=false:=by simp [dX,hp]
   (conv=>arg 4;cbv);simp(maxSteps:=400000)only[↓aB,aC,BEq.rfl,reduceIte,reduceCtorEq,Nat.reduceLT,reduceAdd,reduceSub,reduceMul,Nat.reduceBEq,reduceLeDiff,reduceToNat,reduceLE,hQ,hl']
   exact hbad hr _ _ rfl rfl
 have hl':((names.length:Int)=(l.length:Int))=True:=eq_true (by omega)
 (conv=>arg 4;cbv);simp(maxSteps:=400000)only[↓aB,aC,BEq.rfl,reduceIte,reduceCtorEq,Nat.reduceLT,reduceAdd,reduceSub,reduceMul,Nat.reduceBEq,reduceLeDiff,reduceToNat,reduceLE,hQ,hl']
 refine ⟨by omega,by omega,by omega,by omega,?_⟩
 refine aA (fun m S=>∃ (q:wH) (done:List Bool) (v1 v2:Nat),OY names l q done m∧S=⟨dh 97 [(0,cZ names),(1,dK l),(6,.aY 0 v1),(7,.aY 1 v2),(8,.aY 2 1)],OZ q done v1 v2⟩) names.length ⟨[],List.replicate names.length false,1,1,OY.init names l hp,?_⟩ ?_
 · simp only [bJ,keepR,reduceAdd,kU,Nat.reduceBEq,List.map_nil]
   simp only [OZ,List.map_nil,List.map_replicate]
 rintro m S ⟨q,done,v1,v2,hS,rfl⟩
 have hcnt:=hS.cnt
 have hdl:=hS.len
 cases m with
 | zero=>
  have hlt:((q.length:Int)<(names.length:Int))=False:=eq_false (by omega)
  obtain ⟨hok,hq⟩:=hS.end
  unfold OZ
  simp(maxSteps:=400000)only[↓aB,aC,BEq.rfl,reduceIte,reduceCtorEq,Nat.reduceLT,reduceAdd,reduceSub,reduceMul,Nat.reduceBEq,reduceLeDiff,reduceToNat,reduceLE,hQ,hlt]
  refine aR _ (Weak.refl _ _) ?_
  simp(maxSteps:=400000)only[↓aB,aC,BEq.rfl,reduceIte,reduceCtorEq,Nat.reduceLT,reduceAdd,reduceSub,reduceMul,Nat.reduceBEq,reduceLeDiff,reduceToNat,reduceLE,hQ,↓pz,aa6,Xr]
  have hq2:(q.map (·.2)).flatten.length≤1000000:=by rw [hq,B_ hp];exact hb
  have e:D6 (q.map (·.1)) (q.map (·.2))=gG names l:=by rw [MO,hq];simp [gG,hok]
  rw [e]
  refine ⟨by omega,hq2,fun v hv=>hne v ?_,hgood hok _ _ _ _ rfl rfl⟩
  obtain ⟨x,hx,rfl⟩:=List.mem_map.1 hv
  obtain ⟨i,_,_,h3⟩:=(hS.mem x).1 hx
  exact List.mem_of_getElem? h3
 | succ m=>
 have hlt:((q.length:Int)<(names.length:Int))=True:=eq_true (by omega)
 unfold OZ
 simp(maxSteps:=400000)only[↓aB,aC,BEq.rfl,reduceIte,reduceCtorEq,Nat.reduceLT,reduceAdd,reduceSub,reduceMul,Nat.reduceBEq,reduceLeDiff,reduceToNat,reduceLE,hQ,hlt]
 refine aA (fun m' S=>∃ (j:Nat) (best:Int),j+m'=names.length∧((best=-1∧∀ i,i<j→done[i]?=some true)∨∃ (b:Nat) (nm:List UInt8),best=b∧done[b]?=some false∧names[b]?=some nm∧b<j∧∀ (i:Nat) (vV:List UInt8),i<j→done[i]?=some false→names[i]?=some vV→Op.bytesLess vV nm=false)∧
  S=⟨dh 97 [(0,cZ names),(1,dK l),(6,.aY 0 v1),(7,.aY 1 v2),(8,.aY 2 1),(9,.int .i64 best),(10,.int .i64 j)],OZ q done v1 v2⟩) names.length ⟨0,-1,by omega,.inl ⟨rfl,fun i h=>absurd h (Nat.not_lt_zero i)⟩,?_⟩ ?_
 · simp only [bJ,keepR,reduceAdd,kU,Nat.reduceBEq,List.map_nil]
   rfl
 rintro m' S ⟨j,best,hjm,XP,rfl⟩
 unfold OZ
 rcases lt_or_ge j names.length with h | h
 · have hlt:((j:Int)<(names.length:Int))=True:=eq_true (by omega)
   have zj:(0≤(j:Int))=True:=eq_true (by omega)
   have hgj:=List.getElem?_eq_getElem h
   have hdj:done[j]?=some (done[j]'(by omega)):=List.getElem?_eq_getElem (by omega)
   generalize names[j]=nj at hgj
   generalize done[j]'(by omega)=dj at hdj
   cases dj with
   | true=>
    simp(maxSteps:=400000)only[↓aB,aC,BEq.rfl,reduceIte,reduceCtorEq,Nat.reduceLT,reduceAdd,reduceSub,reduceMul,Nat.reduceBEq,reduceLeDiff,reduceToNat,reduceLE,hQ,hlt,zj,hgj,hdj]
    refine ⟨by omega,⟨by omega,by omega⟩,m'-1,by omega,j+1,best,by omega,?_,?_⟩
    · rcases XP with ⟨rfl,hh⟩ | ⟨b,nm,rfl,h1,h2,h3,h4⟩
      · refine .inl ⟨rfl,fun i hi=>?_⟩
        rcases lt_or_ge i j with g | g
        · exact hh i g
        · have:i=j:=by omega
          subst this;exact hdj
      · refine .inr ⟨b,nm,rfl,h1,h2,by omega,fun i vV hi hd hnn=>?_⟩
        rcases lt_or_ge i j with g | g
        · exact h4 i vV g hd hnn
        · have:i=j:=by omega
          subst this;rw [hdj] at hd;cases hd
    · rfl
   | false=>
    rcases XP with ⟨rfl,hh⟩ | ⟨b,nm,rfl,h1,h2,h3,h4⟩
    · have hm1:((-1:Int)<0)=True:=eq_true (by omega)
      simp(maxSteps:=400000)only[↓aB,aC,BEq.rfl,reduceIte,reduceCtorEq,Nat.reduceLT,reduceAdd,reduceSub,reduceMul,Nat.reduceBEq,reduceLeDiff,reduceToNat,reduceLE,hQ,hlt,zj,hgj,hdj,hm1]
      refine ⟨by omega,⟨by omega,by omega⟩,m'-1,by omega,j+1,j,by omega,.inr ⟨j,nj,rfl,hdj,hgj,by omega,fun i vV hi hd hnn=>?_⟩,?_⟩
      · rcases lt_or_ge i j with g | g
        · have:=hh i g;rw [this] at hd;cases hd
        · have:i=j:=by omega
          subst this;rw [hgj] at hnn;cases hnn;exact dI _
      · rfl
    · have hm1:((b:Int)<0)=False:=eq_false (by omega)
      have zb:(0≤(b:Int))=True:=eq_true (by omega)
      cases hc:Op.bytesLess nj nm
      · simp(maxSteps:=400000)only[↓aB,aC,BEq.rfl,reduceIte,reduceCtorEq,Nat.reduceLT,reduceAdd,reduceSub,reduceMul,Nat.reduceBEq,reduceLeDiff,reduceToNat,reduceLE,hQ,hlt,zj,hgj,hdj,hm1,zb,h2,hc]
        refine ⟨by omega,⟨by omega,by omega⟩,m'-1,by omega,j+1,b,by omega,.inr ⟨b,nm,rfl,h1,h2,by omega,fun i vV hi hd hnn=>?_⟩,?_⟩
        · rcases lt_or_ge i j with g | g
          · exact h4 i vV g hd hnn
          · have:i=j:=by omega
            subst this;rw [hgj] at hnn;cases hnn;exact hc
        · rfl
      · simp(maxSteps:=400000)only[↓aB,aC,BEq.rfl,reduceIte,reduceCtorEq,Nat.reduceLT,reduceAdd,reduceSub,reduceMul,Nat.reduceBEq,reduceLeDiff,reduceToNat,reduceLE,hQ,hlt,zj,hgj,hdj,hm1,zb,h2,hc]
        refine ⟨by omega,⟨by omega,by omega⟩,m'-1,by omega,j+1,j,by omega,.inr ⟨j,nj,rfl,hdj,hgj,by omega,fun i vV hi hd hnn=>?_⟩,?_⟩
        · rcases lt_or_ge i j with g | g
          · have:=h4 i vV g hd hnn
            cases hx:Op.bytesLess vV nj with
            | false=>rfl
            | true=>rw [kG _ _ _ hx hc] at this;cases this
          · have:i=j:=by omega
            subst this;rw [hgj] at hnn;cases hnn;exact dI _
        · rfl
 have Zb:((j:Int)<(names.length:Int))=False:=eq_false (by omega)
 obtain ⟨b,nm,rfl,hbd,hbn,hbj,hmin⟩:∃ (b:Nat) (nm:List UInt8),best=b∧done[b]?=some false∧names[b]?=some nm∧b<j∧∀ (i:Nat) (vV:List UInt8),done[i]?=some false→names[i]?=some vV→Op.bytesLess vV nm=false:=by
  rcases XP with ⟨rfl,hh⟩ | ⟨b,nm,rfl,h1,h2,h3,h4⟩
  · obtain ⟨i,hi⟩:=hS.some
    have:=hh i (by have:=(List.getElem?_eq_some_iff.1 hi).1;omega)
    rw [this] at hi;cases hi
  · exact ⟨b,nm,rfl,h1,h2,h3,fun i vV hd hnn=>h4 i vV (by have:=(List.getElem?_eq_some_iff.1 hnn).1;omega) hd hnn⟩
 have zb:(0≤(b:Int))=True:=eq_true (by omega)
 have hnl:nm.length≤4611686018427387904:=htx nm (List.mem_of_getElem? hbn)
 cases hu:utf nm
 · skip
   simp(maxSteps:=400000)only[↓aB,aC,BEq.rfl,reduceIte,reduceCtorEq,Nat.reduceLT,reduceAdd,reduceSub,reduceMul,Nat.reduceBEq,reduceLeDiff,reduceToNat,reduceLE,hQ,Zb,zb,hbn,↓d9,hu]
   exact ⟨hnl,hbad (Za hbn hu) _ _ rfl rfl⟩
 have hgv:l[b]?=some (l[b]'(by have:=(List.getElem?_eq_some_iff.1 hbn).1;omega)):=List.getElem?_eq_getElem _
 generalize l[b]'(by have:=(List.getElem?_eq_some_iff.1 hbn).1;omega)=v at hgv
 have VW:(List.map (fun x:List UInt8×Vl=>PV.str x.1) q).length=q.length:=List.length_map ..
 rcases List.eq_nil_or_concat q with rfl | ⟨q',z,hqz⟩
 · have hs:=hS.step hbd hbn hgv hmin hu (fun x hx=>by simp at hx)
   have h00:((0:Int)<((0:Nat):Int))=False:=eq_false (by omega)
   simp(maxSteps:=400000)only[↓aB,aC,BEq.rfl,reduceIte,reduceCtorEq,Nat.reduceLT,reduceAdd,reduceSub,reduceMul,Nat.reduceBEq,reduceLeDiff,reduceToNat,reduceLE,hQ,Zb,zb,hbn,↓d9,hu,hgv,h00,hbd]
   refine ⟨hnl,by omega,m,by omega,[(nm,v)],done.set b true,v1+1,v2+1,hs,?_⟩
   simp [OZ,PV.putCells,PV.cells]
 · have hgz:q[q.length-1]?=some z:=by rw [hqz];simp
   have hzq:z ∈ q:=List.mem_of_getElem? hgz
   have hq1:0<q.length:=List.length_pos_of_mem hzq
   have h0q:((0:Int)<(q.length:Int))=True:=eq_true (by omega)
   have t1:((q.length:Int)-1).toNat=q.length-1:=by omega
   have z1:(0≤(q.length:Int)-1)=True:=eq_true (by omega)
   by_cases he:z.1=nm
   · have he':(z.1=nm)=True:=eq_true he
     simp(maxSteps:=400000)only[↓aB,aC,BEq.rfl,reduceIte,reduceCtorEq,Nat.reduceLT,reduceAdd,reduceSub,reduceMul,Nat.reduceBEq,reduceLeDiff,reduceToNat,reduceLE,hQ,Zb,zb,hbn,↓d9,hu,h0q,t1,z1,hgz,he']
     exact ⟨hnl,⟨by omega,by omega⟩,by omega,hbad (hS.twice hbd hbn hzq he _) _ _ rfl rfl⟩
   · have he':(z.1=nm)=False:=eq_false he
     have hs:=hS.step hbd hbn hgv hmin hu (fun x hx=>by rw [hqz] at hx;simp at hx;rw [← hx];exact he)
     simp(maxSteps:=400000)only[↓aB,aC,BEq.rfl,reduceIte,reduceCtorEq,Nat.reduceLT,reduceAdd,reduceSub,reduceMul,Nat.reduceBEq,reduceLeDiff,reduceToNat,reduceLE,hQ,Zb,zb,hbn,↓d9,hu,h0q,t1,z1,hgz,he',hgv,hbd]
     refine ⟨hnl,⟨by omega,by omega⟩,by omega,by omega,by omega,by omega,by omega,by omega,m,by omega,q++[(nm,v)],done.set b true,v1+1,v2+1,hs,?_⟩
     simp [OZ,PV.putCells,PV.cells,List.map_set]
theorem XQ {d n k a b:Nat}{q:PV}{o':Obj}{l:List (Nat×PV)}{ob:List Obj}{o:Obj}(ha:a<n) (hb:b<n) (h1:ob[k]?=some o) (h2:o.live=true) (h3:j4 l a=.aY k o.ver) (h4:j4 l b=q) (h5:nR d k ⟨dh n l,ob⟩ o=o') (h6:eU [o']) (h7:q.atom=true):aa3 D d [.tmp a,.tmp b] [q] o' ⟨dh n l,ob⟩:=
 acU h1 h2 (by simp only [iW,mZ.2.1 n l a ha,mZ.2.1 n l b hb,h3,h4]) h5 h6 (by simp [h7])
theorem IV (names:List (List UInt8)) (l:List Vl) (hbad:dX names l.length=false) (hn:names.length≤1000000) (hl:l.length≤1000000) (hb:l.flatten.length≤1000000) (hne:∀ v ∈ l,v≠[]) (htx:∀ s ∈ names,s.length≤4611686018427387904):ah Tryz.prog 23 [cZ names,dK l] [] (.bU [.sl 0 [] (some true),.int .i64 4]) []:=by
 refine ou.vN (T:=aQ Tryz.prog [(46,d9),(47,pz)]) 1 hD (aj (af rU (af Bp ai))) aV (by decide) (by decide) fun Q hQ=>?_
 have h:=wz names l hn hl hb hne htx Q _ hQ (fun _ t ob h1 h2=>by rw [h1,h2];rfl) (fun h=>by rw [hbad] at h;cases h)
 exact h
theorem GA (names:List (List UInt8)) (l:List Vl) (hok:dX names l.length=true) (hn:names.length≤1000000) (hl:l.length≤1000000) (hb:l.flatten.length≤1000000) (hne:∀ v ∈ l,v≠[]) (htx:∀ s ∈ names,s.length≤4611686018427387904):ah Tryz.prog 23 [cZ names,dK l] [] (.bU [.aY 0 0,.int .i64 0]) [El (gG names l) 0]:=by
 refine ou.Xb (qs:=[.int .i64 0]) (T:=aQ Tryz.prog [(46,d9),(47,pz)]) 1 hD (aj (af rU (af Bp ai))) aV (by decide) fun Q hQ=>?_
 have h:=wz names l hn hl hb hne htx Q _ hQ (fun h=>by rw [hok] at h;cases h) (fun _ t x y z h1 h2=>XQ (k:=3) (by decide) (by decide) rfl rfl h1 h2 (by simp only [nR,El,gM]) (ng _ 0) rfl)
 exact h
theorem GD (names:List (List UInt8)) (l:List Vl) (hn:names.length≤1000000) (hl:l.length≤1000000) (hb:l.flatten.length≤1000000) (hne:∀ v ∈ l,v≠[]) (htx:∀ s ∈ names,s.length≤4611686018427387904):ah Tryz.prog 23 [cZ names,dK l] [] (Em names l) []:=by
 cases hok:dX names l.length with
 | false=>rw [show Em names l=_ from by simp only [Em,hok];rfl];exact IV names l hok hn hl hb hne htx
 | true=>
  have h:=(GA names l hok hn hl hb hne htx).Xc rfl rfl rfl (ng _ 0)
  rw [show Em names l=.bU [aD (gG names l),.int .i64 0] from by simp only [Em,hok];rfl]
  exact h
theorem GH (names:List (List UInt8)) (l:List Vl):j5 (Em names l) (.bU [aD (gG names l),.int .i64 (u7 names l)]):=by
 unfold Em gG u7
 split
 · exact .refl _
 · exact aa1 (.inr rfl) (m_ 0 6) (.refl _)
theorem En (names:List (List UInt8)) (l:List Vl) (hn:names.length≤1000000) (hl:l.length≤1000000) (hb:l.flatten.length≤1000000) (hne:∀ v ∈ l,v≠[]) (htx:∀ s ∈ names,s.length≤4611686018427387904) :
  ah Tryz.prog 23 [cZ names,dK l] [] (.bU [aD (gG names l),.int .i64 (u7 names l)]) []:=
 (GD names l hn hl hb hne htx).res (GH names l)
def oO:dN:=fun args objs K=>match args with
 | [a0,a1]=>gZ cZ a0 (HK.mk:HK fun names=>gZ dK a1 (HK.mk:HK fun l=>(names.length≤1000000)∧(l.length≤1000000)∧(l.flatten.length≤1000000)∧(∀ v ∈ l,v≠[])∧(∀ s ∈ names,s.length≤4611686018427387904)∧K (.bU [aD (gG names l),.int .i64 (u7 names l)]) objs 0))
 | _=>False
theorem Eo:aF Tryz.prog 23 (oO):=by
 intro args objs K h
 unfold oO at h
 split at h
 · rename_i a0 a1
   obtain ⟨names,rfl,l,rfl,h1,h2,h3,h4,h5,hk⟩:=h
   exact ⟨_,_,_,.pure _ rfl (En names l h1 h2 h3 h4 h5),hk⟩
 · exact h.elim
end Lp
namespace Lp
open Go Go.Proofs
theorem aO.aa_ {P:Program}{D:TypeId→aG}{T:Know}{f:FuncId}{n t u:Nat}{ty uy:TypeId}{C:LC}{args:List PV}{r:PV}(h:aO P f n [.cell t ty,.cell u uy] C) (d:Nat) (hD:∀ t,iL P t (D t)) (hT:FZ P none tC T) (hm:P.follows .mixedOrders=true) (ht:t<n) (hu:u<n)
  (hw:∀ Q:Exit→St→Prop,(∀ l ob,Q .ret ⟨dh n l,ob⟩=eY (D ty) (j4 l t) ob fun p _ _=>eY (D uy) (j4 l u) ob fun q _ _=>r=.bU [gL d 0 ob p,gL d 0 ob q])→kE P D T C Q (bS args n)):ah P f args [] r []:=by
 refine h.pure d hD hT hm (by simp) (hw _ fun l ob=>?_)
 simp only [mE,iW,mZ.2.1 n l t ht,mZ.2.1 n l u hu,List.map_cons,List.map_nil,eT]
theorem eU.lt {O:List Obj}(h:eU O):jw O:=fun o ho x hx c hc=>by
 have:=h o ho x hx c hc
 cases c <;> first | rfl | (simp [PV.ref] at this)
end Lp
namespace Lp
open Go Go.Proofs Go.RowKit Go.Sort
def jG (ss:List (List UInt8)):List (List UInt8):=ss.mergeSort fun x y=>decide (x≤y)
theorem oP (ss:List (List UInt8)):(jG ss).length=ss.length:=List.length_mergeSort _
theorem ac2 {R:PV→Value→Prop}{p:PV}{vs:List Value}(h:cu R [p] vs):∃ u,vs=[u]∧R p u:=by
 obtain ⟨hl,h⟩:=h
 match vs,hl with
 | [u],_=>exact ⟨u,rfl,h 0 _ _ rfl rfl⟩
theorem O0 {w:World}{g:Nat}{cur:Array Value}{t:TypeId}(hg:w.heap[g]?=some (.cells cur t (0,0))) (o:Nat):w.frozen? ⟨g,o,none⟩=false:=by
 simp [World.frozen?,hg]
theorem Zc {α:Type}{l:List α}{k:Nat}{x:α}(h:l[k]?=some x):l.set k x=l:=by
 refine List.ext_getElem? fun i=>?_
 rw [List.getElem?_set]
 split
 · rename_i e
   subst e
   rw [if_pos (List.getElem?_eq_some_iff.1 h).1,h]
 · rfl
theorem XR {objs:List Obj}{k ver:Nat}(ss:List (List UInt8)) (h1:objs[k]?=some ⟨9,1,ss.map .str,true,ver⟩) (hl:ss.length≤1000000) :
  SE Tryz.prog 85 [.aY k ver] objs (.bU []) (objs.set k ⟨9,1,(jG ss).map .str,true,ver⟩):=by
 refine ⟨⟨_,Tryz.AU.f190,by kernel_rfl,by kernel_rfl⟩,by simp,fun base ak w0 tmps blk a w vs R hargs=>?_⟩
 obtain ⟨u,rfl,r⟩:=ac2 hargs
 have hh:=r.aY h1 rfl rfl
 have Ia:=R.objs.ob k _ h1 rfl
 unfold zU at hh
 unfold bY at Ia
 cases hb:blk k with
 | none=>
  rw [hb] at hh
  obtain ⟨rfl,hx⟩:=hh
  have hx':ss.map PV.str=[]:=hx
  have hs:ss=[]:=List.map_eq_nil_iff.1 hx'
  subst hs
  refine (Any.slices_Sort_string_none Tryz.AU none 0 w).mono ?_
  rintro e w' ⟨h2,rfl⟩
  have hs0:jG []=[]:=List.mergeSort_nil
  have hset:objs.set k ⟨9,1,(jG []).map .str,true,ver⟩=objs:=by rw [hs0];exact Zc h1
  rw [hset]
  exact ⟨_,blk,h2,R,⟨[],rfl,rfl,fun i p v h=>by simp at h⟩⟩
 | some g=>
  rw [hb] at hh Ia
  obtain ⟨cap,c,hv,hc,h3,h4,h5⟩:=hh
  obtain ⟨c',hc',_,hcell⟩:=Ia
  obtain ⟨_,ec,_,_⟩:=P_ (hc'.symm.trans hc |> Option.some.inj)
  rw [ec] at hcell
  clear hc' ec
  have hv2:u=.slice (some ⟨g,0,none⟩) ss.length cap:=by rw [hv];simp
  clear hv
  subst hv2
  simp only [Nat.mul_one] at h5
  have hg:=(Array.getElem?_eq_some_iff.1 hc).1
  have hsl:(ss.map PV.str).length=ss.length:=List.length_map ..
  have hcl:∀ (j:Nat) (x:List UInt8),ss[j]?=some x→c[j]?=some (encStr x):=fun j x hx=>by
   obtain ⟨_,h⟩:=hcell j (.str x) (by simp only [List.getElem?_map,hx];rfl)
   obtain ⟨v,h6,h7⟩:=h 0 (.str x) rfl
   cases h7
   simpa using h6
  have hH:Holds encStr w g 0 ss.toArray:=fun j hj=>by
   have hj':j<ss.length:=by simpa using hj
   refine ⟨?_,O0 hc _⟩
   have e:=hcl j ss[j] (List.getElem?_eq_getElem hj')
   have e2:ss.toArray[j]! =ss[j]:=by rw [getElem!_pos _ j (by simpa using hj')];simp
   rw [e2,Nat.zero_add]
   simp only [World.cell?,hc]
   exact e
  refine (Any.slices_Sort_string Tryz.AU g 0 cap ss w hH hg (by omega)).mono ?_
  rintro e W ⟨h6,n,os,hW⟩
  have hW:W=grow (putRow encStr (ahead w n) g 0 (jG ss).toArray) os:=hW
  have h3':ss.length≤cap:=by simpa using h3
  have hsz:(jG ss).length≤c.size:=by rw [oP];omega
  have hheap:W.heap[g]?=some (.cells (putCells encStr 0 (jG ss).toArray c) 9 (0,0)):=by
   rw [hW]
   simp only [grow,putRow,mapBlock,heap_ahead]
   rw [Array.getElem?_append_left (by simpa using hg),Array.getElem?_modify,if_pos rfl,hc]
   rfl
  have hoth:∀ b z,g≠b→w.heap[b]?=some z→W.heap[b]?=some z:=fun b z hb hz=>by
   rw [hW]
   have hbl:=(Array.getElem?_eq_some_iff.1 hz).1
   simp only [grow,putRow,mapBlock,heap_ahead]
   rw [Array.getElem?_append_left (by simpa using hbl),Array.getElem?_modify,if_neg hb,hz]
  have hput:∀ (j:Nat) (x:List UInt8),(jG ss)[j]?=some x→(putCells encStr 0 (jG ss).toArray c)[j]?=some (encStr x):=fun j x hx=>by
   have hj:=(List.getElem?_eq_some_iff.1 hx).1
   unfold putCells
   rw [Array.getElem?_mapIdx,Array.getElem?_eq_getElem (by omega:j<c.size)]
   simp only [Option.map_some,Nat.zero_le,true_and,Nat.zero_add,List.size_toArray,hj,if_true,Nat.sub_zero]
   rw [getElem!_pos _ j (by simpa using hj)]
   obtain ⟨_,rfl⟩:=List.getElem?_eq_some_iff.1 hx
   simp
  have hWs:w.heap.size≤W.heap.size:=by rw [hW];simp [grow]
  have hWo:W.os=w.os∧W.output=w.output:=by rw [hW];exact ⟨rfl,rfl⟩
  refine ⟨_,aI blk k (blk k),h6,?_,⟨[],rfl,rfl,fun i p v h=>by simp at h⟩⟩
  refine R.setObj (o':=⟨9,1,(jG ss).map .str,true,ver⟩) hWo h1 rfl rfl hWs ?_ (fun g' hg'=>.inl hg') (Nat.le_refl _) ?_ ?_
  · intro b z hbz hz
    exact hoth b z (fun e=>hbz (by rw [hb,e])) hz
  · intro _
    refine ⟨rfl,rfl,rfl,fun _=>by simp [oP],fun g' c' hg' hc'=>?_⟩
    rw [hb] at hg';cases hg'
    rw [hc] at hc';cases hc'
    exact ⟨_,hheap,by unfold putCells;simp⟩
  · intro hmono
    unfold bY
    have hbk:aI blk k (blk k) k=some g:=by unfold aI;rw [if_pos rfl,hb]
    rw [hbk]
    have hMT:9≠MT:=by decide
    refine ⟨_,(by rw [jW hMT];exact hheap),qx hMT (by simp [putCells,oP];omega),fun i' x' hx'=>?_⟩
    rw [List.getElem?_map] at hx'
    cases hi:(jG ss)[i']? with
    | none=>rw [hi] at hx';simp at hx'
    | some x=>
     rw [hi] at hx'
     simp only [Option.map_some,Option.some.injEq] at hx'
     subst hx'
     refine ⟨rfl,fun j p hp=>?_⟩
     match j,hp with
     | 0,hp=>
      cases hp
      exact ⟨_,by simpa using hput i' x hi,.aJ (.str x)⟩
     | _+1,hp=>simp [PV.cells] at hp
end Lp
namespace Lp
open Go Go.Proofs Go.RowKit
open List (mem_singleton)
open Nat (reduceAdd reduceLeDiff reduceMul reduceSub)
open Int (reduceLE reduceToNat)
theorem aas:∀ x y:List UInt8,x<y↔Op.bytesLess x y=true
 | [],[]=>by simp [Op.bytesLess]
 | [],b::y=>by simp [Op.bytesLess]
 | a::x,[]=>by simp [Op.bytesLess]
 | a::x,b::y=>by
  have ih:=aas x y
  rw [List.cons_lt_cons_iff,ih]
  simp only [Op.bytesLess]
  by_cases h1:a<b
  · simp [h1]
  · by_cases h2:a=b
    · subst h2;simp [h1]
    · simp [h1,h2]
theorem Tx (x y:List UInt8):decide (x≤y)=!Op.bytesLess y x:=by
 have:x≤y↔¬ y<x:=Iff.rfl
 rw [Bool.eq_iff_iff,decide_eq_true_iff,this,aas]
 simp
theorem tY (ss:List (List UInt8)):(jG ss).Perm ss:=List.mergeSort_perm ..
theorem Rq {ss:List (List UInt8)}(h:ss.Nodup):qh (jG ss):=by
 have h1:(jG ss).Pairwise fun x y=>decide (x≤y)=true:=List.pairwise_mergeSort
  (fun a b c h1 h2=>by
   rw [Tx,Bool.not_eq_true'] at *
   cases h:Op.bytesLess c a with
   | false=>rfl
   | true=>
    rcases u6 a b with g | g | g
    · rw [kG _ _ _ h g] at h2;cases h2
    · subst g;rw [h] at h2;cases h2
    · rw [g] at h1;cases h1)
  (fun a b=>by
   rw [Tx,Tx]
   cases h:Op.bytesLess b a with
   | false=>rfl
   | true=>rw [kH _ _ h];rfl) ss
 have h2:(jG ss).Nodup:=(tY ss).nodup_iff.2 h
 refine List.Pairwise.imp ?_ (h1.and h2)
 rintro a b ⟨h3,h4⟩
 rw [Tx] at h3
 rcases u6 a b with g | g | g
 · exact g
 · exact absurd g h4
 · rw [g] at h3;cases h3
theorem O1 (l:List (List UInt8)):ah Tryz.prog 58 [cZ l] [] (.fn 86 [] [.addr (cZ l)]) []:=by
 refine lV.bg (T:=aQ Tryz.prog []) 1 hD (aj ai) aV (by decide) fun Q hQ=>?_
 (conv=>arg 4;cbv);simp(maxSteps:=400000)only[↓aB,aC,BEq.rfl,reduceIte,reduceCtorEq,Nat.reduceLT,reduceAdd,reduceSub,reduceMul,Nat.reduceBEq,reduceLeDiff,reduceToNat,reduceLE,hQ]
 rfl
def GI (l:List (List UInt8)):PV:=.fn 86 [] [.addr (cZ l)]
theorem GJ:∀ a b,GI a=GI b→a=b:=by
 intro a b h
 simp only [GI,PV.fn.injEq,List.cons.injEq,PV.addr.injEq,and_true,true_and] at h
 exact vQ _ _ h
theorem seqB:type_of% (aN GJ):=aN GJ
def xw:dN:=fun args objs K=>match args with
 | [a0]=>gZ cZ a0 (HK.mk:HK fun l=>K (GI l) objs 0)
 | _=>False
theorem LM:aF Tryz.prog 58 (xw):=by
 intro args objs K h
 unfold xw at h
 split at h
 · rename_i a0
   obtain ⟨l,rfl,hk⟩:=h
   exact ⟨_,_,_,.pure _ rfl (O1 l),hk⟩
 · exact h.elim
theorem yx (l:List (List UInt8)) (hl:l.length≤1000000):Gives Tryz.prog 86 [.addr (cZ l)] (l.map fun s=>[.str s]):=by
 refine kT.gives (fnT:=tF []) hD ai aV ?_
 intro I J objs y hI Hw VQ
 (conv=>arg 4;cbv);simp(maxSteps:=400000)only[↓aB,aC,BEq.rfl,reduceIte,reduceCtorEq,Nat.reduceLT,reduceAdd,reduceSub,reduceMul,Nat.reduceBEq,reduceLeDiff,reduceToNat,reduceLE]
 refine aA (fun m S=>∃ (i:Nat) (O:List Obj),i+m=l.length∧I i O∧S=⟨dh 16 [(0,.D9 y),(5,cZ l),(6,.int .i64 l.length),(7,.int .i64 i)],O⟩) l.length ⟨0,objs,by omega,hI,?_⟩ ?_
 · simp only [bJ,keepR,reduceAdd,kU,Nat.reduceBEq,List.map_nil]
   rfl
 rintro m S ⟨i,O,him,hIi,rfl⟩
 rcases Nat.lt_or_ge i l.length with h | h
 · have hlt:((i:Int)<(l.length:Int))=True:=eq_true (by omega)
   have zi:(0≤(i:Int))=True:=eq_true (by omega)
   have hgi:=List.getElem?_eq_getElem h
   generalize l[i]=s at hgi
   simp(maxSteps:=400000)only[↓aB,aC,BEq.rfl,reduceIte,reduceCtorEq,Nat.reduceLT,reduceAdd,reduceSub,reduceMul,Nat.reduceBEq,reduceLeDiff,reduceToNat,reduceLE,hlt,zi,hgi,VP]
   refine ⟨rfl,i,hIi,by rw [hgi];rfl,fun O' hI'=>⟨⟨by omega,by omega⟩,m-1,by omega,i+1,O',by omega,hI',rfl⟩,fun O' hJ'=>⟨.inr rfl,.inr ⟨i,h,hJ'⟩⟩⟩
 · have hlt:((i:Int)<(l.length:Int))=False:=eq_false (by omega)
   simp(maxSteps:=400000)only[↓aB,aC,BEq.rfl,reduceIte,reduceCtorEq,Nat.reduceLT,reduceAdd,reduceSub,reduceMul,Nat.reduceBEq,reduceLeDiff,reduceToNat,reduceLE,hlt]
   have hi:i=l.length:=by omega
   subst hi
   exact ⟨.inl rfl,.inl hIi⟩
theorem DU (l:List (List UInt8)):∀ y ∈ l.map (fun s=>[PV.str s]),y.length=1:=by
 intro y hy
 obtain ⟨p,_,rfl⟩:=List.mem_map.1 hy
 rfl
theorem O3 {l:List (List UInt8)}{i:Nat}{args:List PV}(h:(l.map fun s=>[PV.str s])[i]?=some args):∃ s,l[i]?=some s∧args=[.str s]:=by
 rw [List.getElem?_map] at h
 cases hx:l[i]? with
 | none=>rw [hx] at h;simp at h
 | some p=>rw [hx] at h;exact ⟨p,rfl,by simpa using h.symm⟩
def ac3 (l:List (List UInt8)) (i:Nat):List Obj→Prop:=fun O=>
 (i=0∧O=[⟨49,1,[.sl 0 [] (some true)],true,1⟩])∨(0<i∧∃ ver,O=[⟨49,1,[.aY 1 ver],true,1⟩,⟨9,1,(l.take i).map .str,true,ver⟩])
theorem EZ (l:List (List UInt8)){ver:Nat}:eU [⟨9,1,l.map .str,true,ver⟩]:=by
 intro o ho x hx c hc
 simp only [mem_singleton] at ho;subst ho
 obtain ⟨p,_,rfl⟩:=List.mem_map.1 hx
 simp only [PV.cells,mem_singleton] at hc;subst hc;rfl
theorem GK (l:List (List UInt8)) (h0:l≠[]) (hl:l.length≤1000000):ah Tryz.prog 108 [.sl 0 [] (some true),.fn 86 [] [.addr (cZ l)]] [] (.aY 0 0) [⟨9,1,l.map .str,true,0⟩]:=by
 refine gm.JN (T:=aQ Tryz.prog []) 0 hD (aj ai) aV fun Q hQ=>?_
 (conv=>arg 4;cbv);simp(maxSteps:=400000)only[↓aB,aC,BEq.rfl,reduceIte,reduceCtorEq,Nat.reduceLT,reduceAdd,reduceSub,reduceMul,Nat.reduceBEq,reduceLeDiff,reduceToNat,reduceLE,hQ]
 refine F4 86 [.addr (cZ l)] (l.map fun s=>[.str s]) (fun i O=>ac3 l i O∧i≤l.length) rfl rfl rfl trivial (yx l hl) (DU l) ⟨.inl ⟨rfl,rfl⟩,Nat.zero_le _⟩ ?_ ?_ ?_
 · rintro i O ⟨⟨_,rfl⟩ | ⟨_,ver,rfl⟩,_⟩
   · refine ⟨Nat.le_refl _,?_⟩
     intro o ho x hx c hc
     simp only [mem_singleton] at ho;subst ho
     simp only [mem_singleton] at hx;subst hx
     simp only [PV.cells,mem_singleton] at hc;subst hc;rfl
   · refine ⟨by simp,?_⟩
     intro o ho x hx c hc
     simp only [List.mem_cons,List.not_mem_nil,or_false] at ho
     rcases ho with rfl | rfl
     · simp only [mem_singleton] at hx;subst hx
       simp only [PV.cells,mem_singleton] at hc;subst hc;rfl
     · obtain ⟨p,_,rfl⟩:=List.mem_map.1 hx
       simp only [PV.cells,mem_singleton] at hc;subst hc;rfl
 · rintro i args O ⟨hO,hi⟩ ha
   obtain ⟨s,hs,rfl⟩:=O3 ha
   have hil:=(List.getElem?_eq_some_iff.1 hs).1
   have htk:l.take (i+1)=l.take i++[s]:=by rw [List.take_add_one,hs];rfl
   rcases hO with ⟨rfl,rfl⟩ | ⟨h1,ver,rfl⟩
   · simp(maxSteps:=400000)only[↓aB,aC,BEq.rfl,reduceIte,reduceCtorEq,Nat.reduceLT,reduceAdd,reduceSub,reduceMul,Nat.reduceBEq,reduceLeDiff,reduceToNat,reduceLE,hQ,qo,knI]
     exact ⟨.inr ⟨by omega,1,by rw [htk];rfl⟩,by omega⟩
   · simp(maxSteps:=400000)only[↓aB,aC,BEq.rfl,reduceIte,reduceCtorEq,Nat.reduceLT,reduceAdd,reduceSub,reduceMul,Nat.reduceBEq,reduceLeDiff,reduceToNat,reduceLE,hQ,qo,knI]
     have:=List.length_take_le i l
     exact ⟨by omega,by omega,.inr ⟨by omega,ver+1,by rw [htk,List.map_append];rfl⟩,by omega⟩
 · rintro O ⟨hO,_⟩
   rw [List.length_map] at hO
   rcases hO with ⟨h1,rfl⟩ | ⟨h1,ver,rfl⟩
   · exact absurd (List.length_eq_zero_iff.1 h1) h0
   · simp(maxSteps:=400000)only[↓aB,aC,BEq.rfl,reduceIte,reduceCtorEq,Nat.reduceLT,reduceAdd,reduceSub,reduceMul,Nat.reduceBEq,reduceLeDiff,reduceToNat,reduceLE,hQ]
     refine QB (k:=1) (ver:=ver) rfl rfl rfl rfl ?_ (EZ l)
     simp only [fu,List.take_length]
     rw [p8 PV.str fun _=>rfl]
theorem IW:ah Tryz.prog 108 [.sl 0 [] (some true),.fn 86 [] [.addr (cZ [])]] [] (.sl 0 [] (some true)) []:=by
 refine gm.bg (T:=aQ Tryz.prog []) 0 hD (aj ai) aV (by decide) fun Q hQ=>?_
 (conv=>arg 4;cbv);simp(maxSteps:=400000)only[↓aB,aC,BEq.rfl,reduceIte,reduceCtorEq,Nat.reduceLT,reduceAdd,reduceSub,reduceMul,Nat.reduceBEq,reduceLeDiff,reduceToNat,reduceLE,hQ]
 refine F4 86 [.addr (cZ [])] ([].map fun s=>[PV.str s]) (fun i O=>i≤0∧O=[⟨49,1,[.sl 0 [] (some true)],true,1⟩]) rfl rfl rfl trivial (yx [] (by simp)) (DU []) ⟨Nat.le_refl _,rfl⟩ ?_ ?_ ?_
 · rintro i O ⟨_,rfl⟩
   refine ⟨Nat.le_refl _,?_⟩
   intro o ho x hx c hc
   simp only [mem_singleton] at ho;subst ho
   simp only [mem_singleton] at hx;subst hx
   simp only [PV.cells,mem_singleton] at hc;subst hc;rfl
 · rintro i args O _ ha
   simp at ha
 · rintro O ⟨_,rfl⟩
   simp(maxSteps:=400000)only[↓aB,aC,BEq.rfl,reduceIte,reduceCtorEq,Nat.reduceLT,reduceAdd,reduceSub,reduceMul,Nat.reduceBEq,reduceLeDiff,reduceToNat,reduceLE,hQ]
def zw:dN:=fun args objs K=>∃ l:List (List UInt8),args=[.sl 0 [] (some true),.fn 86 [] [.addr (cZ l)]]∧l≠[]∧l.length≤1000000∧K (.aY objs.length 0) (objs++[⟨9,1,l.map .str,true,0⟩]) 2
theorem IX:aF Tryz.prog 108 zw:=by
 rintro args objs K ⟨l,rfl,h0,h1,hk⟩
 exact ⟨_,_,_,lS.made (objs:=objs) _ _ rfl (EZ l) (GK l h0 h1),by simpa [PV.shift,PV.pK] using hk⟩
def tZ:dN:=fun args objs K=>match args with
 | [a0,a1]=>a0=(.sl 0 [] (some true))∧a1=(.fn 86 [] [.addr (cZ [])])∧K (.sl 0 [] (some true)) objs 0
 | _=>False
theorem IY:aF Tryz.prog 108 (tZ):=by
 intro args objs K h
 unfold tZ at h
 split at h
 · rename_i a0 a1
   obtain ⟨rfl,rfl,hk⟩:=h
   exact ⟨_,_,_,.pure _ rfl (IW),hk⟩
 · exact h.elim
theorem LP (l:List (List UInt8)) (h0:l≠[]) (hl:l.length≤1000000):ah Tryz.prog 84 [.fn 86 [] [.addr (cZ l)]] [] (.aY 0 0) [⟨9,1,l.map .str,true,0⟩]:=by
 refine kL.JN (T:=aQ Tryz.prog [(108,zw)]) 0 hD (aj (af IX ai)) aV fun Q hQ=>?_
 (conv=>arg 4;cbv);simp(maxSteps:=400000)only[↓aB,aC,BEq.rfl,reduceIte,reduceCtorEq,Nat.reduceLT,reduceAdd,reduceSub,reduceMul,Nat.reduceBEq,reduceLeDiff,reduceToNat,reduceLE,hQ,↓zw]
 refine ⟨l,rfl,h0,hl,QB (k:=0) (ver:=0) rfl rfl rfl rfl ?_ (EZ l)⟩
 simp only [fu]
 rw [p8 PV.str fun _=>rfl]
def wB:dN:=fun args objs K=>∃ l:List (List UInt8),args=[.fn 86 [] [.addr (cZ l)]]∧l≠[]∧l.length≤1000000∧K (.aY objs.length 0) (objs++[⟨9,1,l.map .str,true,0⟩]) 2
theorem GL:aF Tryz.prog 84 wB:=by
 rintro args objs K ⟨l,rfl,h0,h1,hk⟩
 exact ⟨_,_,_,lS.made (objs:=objs) _ _ rfl (EZ l) (LP l h0 h1),by simpa [PV.shift,PV.pK] using hk⟩
def GN:dN:=fun args objs K=>∃ (k ver:Nat) (ss:List (List UInt8)),args=[.aY k ver]∧objs[k]?=some ⟨9,1,ss.map .str,true,ver⟩∧ss.length≤1000000∧K (.bU []) (objs.set k ⟨9,1,(jG ss).map .str,true,ver⟩) 2
theorem O4:aF Tryz.prog 85 GN:=by
 rintro args objs K ⟨k,ver,ss,rfl,h1,h2,hk⟩
 exact ⟨_,_,_,.used _ _ (XR ss h1 h2),hk⟩
theorem O5:ah Tryz.prog 84 [.fn 86 [] [.addr (cZ [])]] [] (.sl 0 [] (some true)) []:=by
 refine kL.bg (T:=aQ Tryz.prog [(108,tZ)]) 0 hD (aj (af IY ai)) aV (by decide) fun Q hQ=>?_
 (conv=>arg 4;cbv);simp(maxSteps:=400000)only[↓aB,aC,BEq.rfl,reduceIte,reduceCtorEq,Nat.reduceLT,reduceAdd,reduceSub,reduceMul,Nat.reduceBEq,reduceLeDiff,reduceToNat,reduceLE,hQ,↓tZ]
def qG:dN:=fun args objs K=>match args with
 | [a0]=>a0=(.fn 86 [] [.addr (cZ [])])∧K (.sl 0 [] (some true)) objs 0
 | _=>False
theorem GQ:aF Tryz.prog 84 (qG):=by
 intro args objs K h
 unfold qG at h
 split at h
 · rename_i a0
   obtain ⟨rfl,hk⟩:=h
   exact ⟨_,_,_,.pure _ rfl (O5),hk⟩
 · exact h.elim
theorem LQ:ah Tryz.prog 85 [.sl 0 [] (some true)] [] (.bU []) []:=by
 refine ah.oK ⟨_,Tryz.AU.f190,by kernel_rfl,by kernel_rfl⟩ fun w vs ok hg hr=>?_
 obtain ⟨u,rfl,h⟩:=Y3 hr
 have hu:u=.slice none 0 0:=by
  cases h with
  | slnil=>rfl
  | H6 _ _ hq=>exact absurd rfl hq
  | sl _ _ _ hq=>exact absurd rfl hq
 subst hu
 refine (Any.slices_Sort_string_none Tryz.AU none 0 w).mono ?_
 rintro e w' ⟨h1,rfl⟩
 exact ⟨_,h1,fun w ok=>.bU _ _ rfl (fun i p v h=>by simp at h),.refl _ _⟩
def Bq:dN:=fun args objs K=>match args with
 | [a0]=>a0=(.sl 0 [] (some true))∧K (.bU []) objs 0
 | _=>False
theorem O6:aF Tryz.prog 85 (Bq):=by
 intro args objs K h
 unfold Bq at h
 split at h
 · rename_i a0
   obtain ⟨rfl,hk⟩:=h
   exact ⟨_,_,_,.pure _ rfl (LQ),hk⟩
 · exact h.elim
theorem O7 (l:List (List UInt8)) (hl:l.length≤1000000):ah Tryz.prog 57 [.fn 86 [] [.addr (cZ l)]] [] (cZ (jG l)) []:=by
 by_cases h0:l=[]
 · subst h0
   refine ah.res (r:=.sl 0 [] (some true)) ?_ (by have:jG []=[]:=List.mergeSort_nil;rw [this];exact m_ 0 1)
   refine lq.bg (T:=aQ Tryz.prog [(84,qG),(85,Bq)]) 0 hD (aj (af GQ (af O6 ai))) aV (by decide) fun Q hQ=>?_
   (conv=>arg 4;cbv);simp(maxSteps:=400000)only[↓aB,aC,BEq.rfl,reduceIte,reduceCtorEq,Nat.reduceLT,reduceAdd,reduceSub,reduceMul,Nat.reduceBEq,reduceLeDiff,reduceToNat,reduceLE,hQ,↓qG,↓Bq]
 refine lq.bg (T:=aQ Tryz.prog [(84,wB),(85,GN)]) 1 hD (aj (af GL (af O4 ai))) aV (by decide) fun Q hQ=>?_
 (conv=>arg 4;cbv);simp(maxSteps:=400000)only[↓aB,aC,BEq.rfl,reduceIte,reduceCtorEq,Nat.reduceLT,reduceAdd,reduceSub,reduceMul,Nat.reduceBEq,reduceLeDiff,reduceToNat,reduceLE,hQ,↓wB]
 refine ⟨l,rfl,h0,hl,?_⟩
 simp(maxSteps:=400000)only[↓aB,aC,BEq.rfl,reduceIte,reduceCtorEq,Nat.reduceLT,reduceAdd,reduceSub,reduceMul,Nat.reduceBEq,reduceLeDiff,reduceToNat,reduceLE,hQ,↓GN]
 refine ⟨0,0,l,rfl,rfl,hl,?_⟩
 simp only [List.set_cons_zero,eP,Nat.not_lt_zero,if_false,fG,List.getElem?_cons_zero,Nat.le_refl,decide_true,Bool.true_and,beq_self_eq_true,if_true]
 rw [p8 PV.str fun _=>rfl]
 rfl
def xA:dN:=fun args objs K=>match args with
 | [a0]=>gZ GI a0 (HK.mk:HK fun l=>(l.length≤1000000)∧K (cZ (jG l)) objs 0)
 | _=>False
theorem LU:aF Tryz.prog 57 (xA):=by
 intro args objs K h
 unfold xA at h
 split at h
 · rename_i a0
   obtain ⟨l,rfl,h1,hk⟩:=h
   exact ⟨_,_,_,.pure _ rfl (O7 l h1),hk⟩
 · exact h.elim
end Lp
namespace Lp
open Go Go.Proofs
open List (getElem_mem map_append map_cons map_fst_zip map_id map_map map_nil take_add_one)
open Nat (lt_or_ge reduceAdd reduceLeDiff reduceMul reduceSub zero_le)
open Int (reduceLE reduceToNat)
def Vo (x:List UInt8×Vl):PV:=.agg [.str x.1,aD x.2]
def GR (q:wH):Obj:=⟨MT,2,q.map Vo,true,1⟩
theorem O8 (P:Program) (D:TypeId→aG) (T:Know) (w pt:Bool) (ev:Operand→PV) (objs:List Obj) (K:KT) :
  (∀ t x ix ok,lF P D T w pt ev objs (.lookup t x ix ok) K=jD D t (ev x) (ev ix) ok objs K)∧
  (∀ t x y z,lF P D T w pt ev objs (.mapUpdate t x y z) K=gK D t (ev x) (ev y) (ev z) objs K)∧
  (∀ t,lF P D T w pt ev objs (.makeMap t none) K=kI D t objs K):=⟨fun _ _ _ _=>rfl,fun _ _ _ _=>rfl,fun _=>rfl⟩
theorem C8 (ti:aG):(∀ i v,found ti (some (i,v)) true=.bU [v,.bool true])∧(∀ i v,found ti (some (i,v)) false=v)∧(found ti none true=.bU [aK ti,.bool false])∧(found ti none false=aK ti):=⟨fun _ _=>rfl,fun _ _=>rfl,rfl,rfl⟩
theorem zx {nm:List UInt8}:∀ (q:wH) (i:Nat),nm ∉ q.map (·.1)→rE .str (.str nm) (q.map Vo) i=some none
 | [],_,_=>rfl
 | x::q,i,h=>by
  simp only [map_cons,List.mem_cons,not_or] at h
  have:PX .str (.str nm) (.str x.1)=some false:=by simp [PX,h.1]
  simp only [map_cons,Vo,rE,this]
  exact zx q (i+1) h.2
theorem zy {nm:List UInt8}{v:Vl}:∀ (q:wH) (i:Nat),q9 q nm=some v→∃ j,rE .str (.str nm) (q.map Vo) i=some (some (j,aD v))
 | [],_,h=>by simp [q9] at h
 | x::q,i,h=>by
  by_cases e:x.1=nm
  · have hk:PX .str (.str nm) (.str x.1)=some true:=by simp [PX,e]
    have hv:x.2=v:=by simpa [q9,e] using h
    refine ⟨i,?_⟩
    simp only [map_cons,Vo,rE,hk,hv]
  · have hk:PX .str (.str nm) (.str x.1)=some false:=by simp [PX];exact fun h=>e h.symm
    have h':q9 q nm=some v:=by simpa [q9,e] using h
    obtain ⟨j,hj⟩:=zy q (i+1) h'
    refine ⟨j,?_⟩
    simp only [map_cons,Vo,rE,hk]
    exact hj
theorem Rs {names:List (List UInt8)}{l:List Vl}(h:dX names l.length=true):((jG names).map fun nm=>(nm,(q9 (names.zip l) nm).getD []))=D7 (names.zip l)∧∀ nm ∈ names,∃ v,q9 (names.zip l) nm=some v∧v ∈ l:=by
 obtain ⟨h1,h2,h3⟩:=iy.1 h
 have xS:(names.zip l).map (·.1)=names:=map_fst_zip (by omega)
 have hget:∀ nm ∈ names,∃ v,q9 (names.zip l) nm=some v∧v ∈ l:=fun nm hm=>by
  cases hg:q9 (names.zip l) nm with
  | none=>rw [BX,xS] at hg;exact absurd hm hg
  | some v=>exact ⟨v,rfl,(List.of_mem_zip (BZ hg)).2⟩
 refine ⟨Dh h ?_ fun x=>?_,hget⟩
 · rw [map_map]
   have:(Prod.fst ∘ fun nm=>(nm,(q9 (names.zip l) nm).getD []))=id:=rfl
   show qh (List.map (Prod.fst ∘ fun nm=>(nm,(q9 (names.zip l) nm).getD [])) (jG names))
   rw [this,map_id]
   exact Rq h2
 · constructor
   · intro hx
     obtain ⟨nm,hn,rfl⟩:=List.mem_map.1 hx
     obtain ⟨v,hv,_⟩:=hget nm ((tY names).mem_iff.1 hn)
     rw [hv]
     exact BZ hv
   · intro hx
     have hg:=VT (by rw [xS];exact h2) hx
     refine List.mem_map.2 ⟨x.1,(tY names).mem_iff.2 (by rw [← xS];exact List.mem_map.2 ⟨x,hx,rfl⟩),?_⟩
     rw [hg];rfl
theorem IZ (names:List (List UInt8)) (l:List Vl) (hbad:dX names l.length=false) (hn:names.length≤1000000) (htx:∀ s ∈ names,s.length≤4611686018427387904):ah Tryz.prog 31 [cZ names,dK l] [] (.bU [.sl 0 [] (some true),.int .i64 4]) []:=by
 by_cases hp:names.length=l.length
 rotate_left 1
 · skip
   refine tJ.vN (T:=aQ Tryz.prog []) 1 hD (aj ai) aV (by decide) (by decide) fun Q hQ=>?_
   have hl':((names.length:Int)=(l.length:Int))=False:=eq_false (by omega)
   (conv=>arg 4;cbv);simp(maxSteps:=400000)only[↓aB,aC,BEq.rfl,reduceIte,reduceCtorEq,Nat.reduceLT,reduceAdd,reduceSub,reduceMul,Nat.reduceBEq,reduceLeDiff,reduceToNat,reduceLE,hQ,hl']
 have hl':((names.length:Int)=(l.length:Int))=True:=eq_true (by omega)
 refine tJ.vN (T:=aQ Tryz.prog [(56,cK)]) 1 hD (aj (af oL ai)) aV (by decide) (by decide) fun Q hQ=>?_
 (conv=>arg 4;cbv);simp(maxSteps:=400000)only[↓aB,aC,BEq.rfl,reduceIte,reduceCtorEq,Nat.reduceLT,reduceAdd,reduceSub,reduceMul,Nat.reduceBEq,reduceLeDiff,reduceToNat,reduceLE,hQ,hl',↓O8,kI]
 refine aA (fun m S=>∃ i:Nat,i+m=names.length∧(names.take i).Nodup∧(∀ x ∈ names.take i,utf x=true)∧S=⟨dh 66 [(0,cZ names),(1,dK l),(6,.sJ 0 1),(21,cZ names),(22,.int .i64 names.length),(23,.int .i64 i)],[GR ((names.zip l).take i)]⟩) names.length ⟨0,by omega,by simp,by simp,?_⟩ ?_
 · simp only [bJ,keepR,reduceAdd,kU,Nat.reduceBEq,map_nil]
   rfl
 rintro m S ⟨i,him,hnd,hut,rfl⟩
 rcases lt_or_ge i names.length with h | h
 · have hlt:((i:Int)<(names.length:Int))=True:=eq_true (by omega)
   have zi:(0≤(i:Int))=True:=eq_true (by omega)
   have hgi:=List.getElem?_eq_getElem h
   have hgl:l[i]?=some (l[i]'(by omega)):=List.getElem?_eq_getElem _
   have hx:=htx _ (getElem_mem h)
   generalize names[i]=nm at hgi hx
   generalize l[i]'(by omega)=v at hgl
   have hgz:(names.zip l)[i]?=some (nm,v):=by rw [List.getElem?_zip_eq_some];exact ⟨hgi,hgl⟩
   have htk:names.take (i+1)=names.take i++[nm]:=by rw [take_add_one,hgi];rfl
   have htz:(names.zip l).take (i+1)=(names.zip l).take i++[(nm,v)]:=by rw [take_add_one,hgz];rfl
   have xS:((names.zip l).take i).map (·.1)=names.take i:=by rw [List.map_take,map_fst_zip (by omega)]
   by_cases hin:nm ∈ names.take i
   · skip
     obtain ⟨v',hv'⟩:∃ v',q9 ((names.zip l).take i) nm=some v':=by
      cases hg:q9 ((names.zip l).take i) nm with
      | none=>rw [BX,xS] at hg;exact absurd hin hg
      | some v'=>exact ⟨v',rfl⟩
     obtain ⟨j,hj⟩:=zy _ 0 hv'
     unfold GR
     simp(maxSteps:=400000)only[↓aB,aC,BEq.rfl,reduceIte,reduceCtorEq,Nat.reduceLT,reduceAdd,reduceSub,reduceMul,Nat.reduceBEq,reduceLeDiff,reduceToNat,reduceLE,hQ,hlt,zi,hgi,↓O8,jD,hj,C8,bN,true_or]
   · have hmf:=zx ((names.zip l).take i) 0 (by rw [xS];exact hin)
     cases hu:utf nm
     · unfold GR
       simp(maxSteps:=400000)only[↓aB,aC,BEq.rfl,reduceIte,reduceCtorEq,Nat.reduceLT,reduceAdd,reduceSub,reduceMul,Nat.reduceBEq,reduceLeDiff,reduceToNat,reduceLE,hQ,hlt,zi,hgi,↓cK,hu,↓O8,jD,hmf,C8,bN,true_or]
       exact hx
     · unfold GR
       simp(maxSteps:=400000)only[↓aB,aC,BEq.rfl,reduceIte,reduceCtorEq,Nat.reduceLT,reduceAdd,reduceSub,reduceMul,Nat.reduceBEq,reduceLeDiff,reduceToNat,reduceLE,hQ,hlt,zi,hgi,hgl,↓cK,hu,↓O8,jD,gK,hmf,C8,bN,true_or,Eb]
       refine ⟨hx,⟨by omega,by omega⟩,m-1,by omega,i+1,by omega,?_,fun x hx=>?_,?_⟩
       · rw [htk,List.nodup_append]
         refine ⟨hnd,by simp,fun a ha b hb=>?_⟩
         simp only [List.mem_singleton] at hb
         subst hb
         rintro rfl;exact hin ha
       · rw [htk] at hx
         rcases List.mem_append.1 hx with hx | hx
         · exact hut x hx
         · simp only [List.mem_singleton] at hx
           subst hx;exact hu
       · rw [htz,map_append];rfl
 rw [List.take_of_length_le h] at hnd hut
 rw [iy.2 ⟨hp,hnd,hut⟩] at hbad
 cases hbad
theorem GU (names:List (List UInt8)) (l:List Vl) (hok:dX names l.length=true) (hn:names.length≤1000000) (hb:l.flatten.length≤1000000) (hne:∀ v ∈ l,v≠[]) (htx:∀ s ∈ names,s.length≤4611686018427387904):ah Tryz.prog 31 [cZ names,dK l] [] (.bU [.aY 0 0,.int .i64 0]) [El (gG names l) 0]:=by
 obtain ⟨hp,hnd,hut⟩:=iy.1 hok
 have hl':((names.length:Int)=(l.length:Int))=True:=eq_true (by omega)
 obtain ⟨hsrt,hget⟩:=Rs hok
 have hsl:(jG names).length=names.length:=oP names
 have hsm:∀ nm ∈ jG names,nm ∈ names:=fun nm h=>(tY names).mem_iff.1 h
 refine tJ.Xb (qs:=[.int .i64 0]) (T:=aQ Tryz.prog [(56,cK),(58,xw),(57,xA),(59,wm)]) 1 hD (aj (af oL (af LM (af LU (af Oh ai))))) aV (by decide) fun Q hQ=>?_
 (conv=>arg 4;cbv);simp(maxSteps:=400000)only[↓aB,aC,BEq.rfl,reduceIte,reduceCtorEq,Nat.reduceLT,reduceAdd,reduceSub,reduceMul,Nat.reduceBEq,reduceLeDiff,reduceToNat,reduceLE,hQ,hl',↓O8,kI]
 refine aA (fun m S=>∃ i:Nat,i+m=names.length∧S=⟨dh 66 [(0,cZ names),(1,dK l),(6,.sJ 0 1),(21,cZ names),(22,.int .i64 names.length),(23,.int .i64 i)],[GR ((names.zip l).take i)]⟩) names.length ⟨0,by omega,?_⟩ ?_
 · simp only [bJ,keepR,reduceAdd,kU,Nat.reduceBEq,map_nil]
   rfl
 rintro m S ⟨i,him,rfl⟩
 rcases lt_or_ge i names.length with h | h
 · have hlt:((i:Int)<(names.length:Int))=True:=eq_true (by omega)
   have zi:(0≤(i:Int))=True:=eq_true (by omega)
   have hgi:=List.getElem?_eq_getElem h
   have hgl:l[i]?=some (l[i]'(by omega)):=List.getElem?_eq_getElem _
   have hx:=htx _ (getElem_mem h)
   have hu:=hut _ (getElem_mem h)
   generalize names[i]=nm at hgi hx hu
   generalize l[i]'(by omega)=v at hgl
   have hgz:(names.zip l)[i]?=some (nm,v):=by rw [List.getElem?_zip_eq_some];exact ⟨hgi,hgl⟩
   have htz:(names.zip l).take (i+1)=(names.zip l).take i++[(nm,v)]:=by rw [take_add_one,hgz];rfl
   have xS:((names.zip l).take i).map (·.1)=names.take i:=by rw [List.map_take,map_fst_zip (by omega)]
   have hin:nm ∉ names.take i:=fun hin=>by
    have htk:names.take (i+1)=names.take i++[nm]:=by rw [take_add_one,hgi];rfl
    have h2:(names.take (i+1)).Nodup:=List.Pairwise.sublist (List.take_sublist _ _) hnd
    rw [htk,List.nodup_append] at h2
    exact absurd rfl (h2.2.2 nm hin nm (by simp))
   have hmf:=zx ((names.zip l).take i) 0 (by rw [xS];exact hin)
   unfold GR
   simp(maxSteps:=400000)only[↓aB,aC,BEq.rfl,reduceIte,reduceCtorEq,Nat.reduceLT,reduceAdd,reduceSub,reduceMul,Nat.reduceBEq,reduceLeDiff,reduceToNat,reduceLE,hQ,hlt,zi,hgi,hgl,↓cK,hu,↓O8,jD,gK,hmf,C8,bN,true_or,Eb]
   exact ⟨hx,⟨by omega,by omega⟩,m-1,by omega,i+1,by omega,by rw [htz,map_append];rfl⟩
 have hlt:((i:Int)<(names.length:Int))=False:=eq_false (by omega)
 have htz:(names.zip l).take i=names.zip l:=List.take_of_length_le (by simp;omega)
 rw [htz]
 unfold GR
 simp(maxSteps:=400000)only[↓aB,aC,BEq.rfl,reduceIte,reduceCtorEq,Nat.reduceLT,reduceAdd,reduceSub,reduceMul,Nat.reduceBEq,reduceLeDiff,reduceToNat,reduceLE,hQ,hlt,↓xw,↓xA,seqB]
 refine ⟨by omega,?_⟩
 generalize jG names=ss at *
 obtain ⟨P,hP⟩:∃ P:List UInt8→Vl,P=fun nm=>(q9 (names.zip l) nm).getD []:=⟨_,rfl⟩
 refine aA (fun m S=>∃ j:Nat,j+m=names.length∧((j=0∧S=⟨dh 66 [(6,.sJ 0 1),(11,cZ ss),(12,.sl 0 [] (some true)),(50,cZ ss),(51,.int .i64 ss.length),(52,.int .i64 j)],[GR (names.zip l)]⟩)∨
  (0<j∧∃ ver,S=⟨dh 66 [(6,.sJ 0 1),(11,cZ ss),(12,.aY 1 ver),(50,cZ ss),(51,.int .i64 ss.length),(52,.int .i64 j)],[GR (names.zip l),⟨28,1,((ss.take j).map P).map aD,true,ver⟩]⟩))) names.length ⟨0,by omega,.inl ⟨rfl,?_⟩⟩ ?_
 · simp only [bJ,keepR,reduceAdd,kU,Nat.reduceBEq,map_nil]
   rfl
 rintro m' S ⟨j,hjm,hS⟩
 rcases lt_or_ge j ss.length with h' | h'
 · have hlt:((j:Int)<(ss.length:Int))=True:=eq_true (by omega)
   have zj:(0≤(j:Int))=True:=eq_true (by omega)
   have hgj:=List.getElem?_eq_getElem h'
   have hm:=hsm _ (getElem_mem h')
   generalize ss[j]=nm at hgj hm
   have htk:ss.take (j+1)=ss.take j++[nm]:=by rw [take_add_one,hgj];rfl
   obtain ⟨v,hv,hvl⟩:=hget nm hm
   obtain ⟨j2,hj2⟩:=zy _ 0 hv
   have hPv:P nm=v:=by rw [hP];simp [hv]
   rcases hS with ⟨rfl,rfl⟩ | ⟨h0,ver,rfl⟩
   · unfold GR
     simp(maxSteps:=400000)only[↓aB,aC,BEq.rfl,reduceIte,reduceCtorEq,Nat.reduceLT,reduceAdd,reduceSub,reduceMul,Nat.reduceBEq,reduceLeDiff,reduceToNat,reduceLE,hQ,hlt,zj,hgj,↓O8,jD,hj2,C8,true_or]
     refine ⟨⟨by omega,by omega⟩,m'-1,by omega,1,by omega,.inr ⟨by omega,1,?_⟩⟩
     rw [show ss.take 1=[nm] from htk,map_cons,hPv]
     rfl
   · unfold GR
     simp(maxSteps:=400000)only[↓aB,aC,BEq.rfl,reduceIte,reduceCtorEq,Nat.reduceLT,reduceAdd,reduceSub,reduceMul,Nat.reduceBEq,reduceLeDiff,reduceToNat,reduceLE,hQ,hlt,zj,hgj,↓O8,jD,hj2,C8,true_or]
     have:=List.length_take_le j ss
     refine ⟨by omega,by omega,⟨by omega,by omega⟩,m'-1,by omega,j+1,by omega,.inr ⟨by omega,ver+1,?_⟩⟩
     rw [htk,map_append (f:=P),map_append,map_cons,hPv]
     rfl
 have hlt:((j:Int)<(ss.length:Int))=False:=eq_false (by omega)
 have hq:(ss.map fun nm=>(nm,P nm))=D7 (names.zip l):=by rw [hP];exact hsrt
 have e:D6 ss (ss.map P)=gG names l:=by
  have e:D6 ss (ss.map P)=mkO (ss.map fun nm=>(nm,P nm)):=by
   rw [← MO,map_map,map_map]
   congr 1
   exact (map_id ss).symm
  rw [e,hq]
  simp [gG,hok]
 have hsn:ss.map P=(D7 (names.zip l)).map (·.2):=by
  rw [← hq,map_map];rfl
 have hfl:(ss.map P).flatten.length≤1000000:=by rw [hsn,B_ hp];exact hb
 have hnp:∀ v ∈ ss.map P,v≠[]:=fun v hv=>by
  obtain ⟨nm,hn,rfl⟩:=List.mem_map.1 hv
  obtain ⟨v,hv,hvl⟩:=hget nm (hsm nm hn)
  have hPv:P nm=v:=by rw [hP];simp [hv]
  rw [hPv]
  exact hne v hvl
 have hlp:(ss.map P).length≤1000000:=by rw [List.length_map];omega
 rcases hS with ⟨hj0,rfl⟩ | ⟨h0,ver,rfl⟩
 · have hs0:ss.length=0:=by omega
   have hl0:D6 ss []=gG names l:=by
    rw [← e]
    have:ss=[]:=List.length_eq_zero_iff.1 hs0
    rw [this];rfl
   simp(maxSteps:=400000)only[↓aB,aC,BEq.rfl,reduceIte,reduceCtorEq,Nat.reduceLT,reduceAdd,reduceSub,reduceMul,Nat.reduceBEq,reduceLeDiff,reduceToNat,reduceLE,hQ,hlt]
   refine aR _ (Weak.freeze 1 0 (zero_le _) _) ?_
   simp(maxSteps:=400000)only[↓aB,aC,BEq.rfl,reduceIte,reduceCtorEq,Nat.reduceLT,reduceAdd,reduceSub,reduceMul,Nat.reduceBEq,reduceLeDiff,reduceToNat,reduceLE,hQ,↓wm,aa6,Xr]
   exact ⟨hs0,by simp,by simp,XQ (k:=0) (by decide) (by decide) rfl rfl rfl rfl (by rw [← hl0];simp only [nR,El,gM]) (ng _ 0) rfl⟩
 simp(maxSteps:=400000)only[↓aB,aC,BEq.rfl,reduceIte,reduceCtorEq,Nat.reduceLT,reduceAdd,reduceSub,reduceMul,Nat.reduceBEq,reduceLeDiff,reduceToNat,reduceLE,hQ,hlt]
 refine aR _ (Weak.freeze 1 0 (zero_le _) _) ?_
 have f2:∀ x:Obj,eP 1 0 [x,⟨28,1,List.map aD ((ss.take j).map P),true,ver⟩] (.aY 1 ver)=dK (ss.map P):=fun x=>by
  simp only [eP,Nat.not_lt_zero,if_false,fG,List.getElem?_cons_succ,List.getElem?_cons_zero,zero_le,decide_true,Bool.true_and,beq_self_eq_true,if_true]
  rw [p8 aD fun _=>rfl,List.take_of_length_le h'];rfl
 simp(maxSteps:=400000)only[↓aB,aC,BEq.rfl,reduceIte,reduceCtorEq,Nat.reduceLT,reduceAdd,reduceSub,reduceMul,Nat.reduceBEq,reduceLeDiff,reduceToNat,reduceLE,hQ,↓wm,aa6,Xr,f2]
 exact ⟨by rw [List.length_map] at hlp;exact hlp,hfl,hnp,XQ (k:=0) (by decide) (by decide) rfl rfl rfl rfl (by rw [← e];simp only [nR,El,gM]) (ng _ 0) rfl⟩
theorem GV (names:List (List UInt8)) (l:List Vl) (hn:names.length≤1000000) (hb:l.flatten.length≤1000000) (hne:∀ v ∈ l,v≠[]) (htx:∀ s ∈ names,s.length≤4611686018427387904):ah Tryz.prog 31 [cZ names,dK l] [] (Em names l) []:=by
 cases hok:dX names l.length with
 | false=>rw [show Em names l=_ from by simp only [Em,hok];rfl];exact IZ names l hok hn htx
 | true=>
  have h:=(GU names l hok hn hb hne htx).Xc rfl rfl rfl (ng _ 0)
  rw [show Em names l=.bU [aD (gG names l),.int .i64 0] from by simp only [Em,hok];rfl]
  exact h
theorem Ep (names:List (List UInt8)) (l:List Vl) (hn:names.length≤1000000) (hb:l.flatten.length≤1000000) (hne:∀ v ∈ l,v≠[]) (htx:∀ s ∈ names,s.length≤4611686018427387904) :
  ah Tryz.prog 31 [cZ names,dK l] [] (.bU [aD (gG names l),.int .i64 (u7 names l)]) []:=
 (GV names l hn hb hne htx).res (GH names l)
def oQ:dN:=fun args objs K=>match args with
 | [a0,a1]=>gZ cZ a0 (HK.mk:HK fun names=>gZ dK a1 (HK.mk:HK fun l=>(names.length≤1000000)∧(l.flatten.length≤1000000)∧(∀ v ∈ l,v≠[])∧(∀ s ∈ names,s.length≤4611686018427387904)∧K (.bU [aD (gG names l),.int .i64 (u7 names l)]) objs 0))
 | _=>False
theorem Er:aF Tryz.prog 31 (oQ):=by
 intro args objs K h
 unfold oQ at h
 split at h
 · rename_i a0 a1
   obtain ⟨names,rfl,l,rfl,h1,h2,h3,h4,hk⟩:=h
   exact ⟨_,_,_,.pure _ rfl (Ep names l h1 h2 h3 h4),hk⟩
 · exact h.elim
end Lp
namespace Lp
open Go Go.Proofs
open Nat (lt_or_ge reduceAdd reduceLeDiff reduceMul reduceSub)
open Int (reduceLE reduceToNat)
theorem Vp (mask kind:Int) (hm:0≤mask∧mask≤1000000) (hk:0≤kind∧kind≤1000000):ah Tryz.prog 63 [.int .i64 mask,.int .i64 kind] [] (.bool (Di mask kind)) []:=by
 refine Aw.bg (T:=aQ Tryz.prog []) 0 hD (aj ai) aV (by decide) fun Q hQ=>?_
 (conv=>arg 4;cbv);simp(maxSteps:=400000)only[↓aS,aT,BEq.rfl,reduceIte,reduceCtorEq,Nat.reduceLT,reduceAdd,reduceSub,reduceMul,Nat.reduceBEq,reduceLeDiff,reduceToNat,reduceLE,hQ]
 refine aA (fun m S=>∃ (i x:Nat),i+m=kind.toNat∧x=mask.toNat / 2 ^ i∧S=⟨dh 16 [(0,.int .i64 x),(1,.int .i64 kind),(5,.int .i64 i)],[]⟩) kind.toNat ⟨0,mask.toNat,by omega,by simp,?_⟩ ?_
 · simp only [bJ,keepR,reduceAdd,kU,Nat.reduceBEq,List.map_nil]
   rw [Int.toNat_of_nonneg hm.1];rfl
 rintro m S ⟨i,x,him,hx,rfl⟩
 have hxm:x≤mask.toNat:=by rw [hx];exact Nat.div_le_self ..
 rcases lt_or_ge i kind.toNat with h | h
 rotate_left 1
 · have hlt:((i:Int)<kind)=False:=eq_false (by omega)
   have hi:i=kind.toNat:=by omega
   have hr:Di mask kind=decide ((x:Int).tmod 2=1):=by
    have e:(x:Int).tmod 2=((x % 2:Nat):Int):=rfl
    rw [e,Di,← hi,← hx,Bool.eq_iff_iff,beq_iff_eq,decide_eq_true_iff]
    omega
   simp(maxSteps:=400000)only[↓aS,aT,BEq.rfl,reduceIte,reduceCtorEq,Nat.reduceLT,reduceAdd,reduceSub,reduceMul,Nat.reduceBEq,reduceLeDiff,reduceToNat,reduceLE,hQ,hlt,hr]
   decide
 · have hlt:((i:Int)<kind)=True:=eq_true (by omega)
   simp(maxSteps:=400000)only[↓aS,aT,BEq.rfl,reduceIte,reduceCtorEq,Nat.reduceLT,reduceAdd,reduceSub,reduceMul,Nat.reduceBEq,reduceLeDiff,reduceToNat,reduceLE,hQ,hlt]
   have e:(x:Int).tdiv 2=((x / 2:Nat):Int):=rfl
   refine ⟨by decide,⟨by omega,by omega⟩,⟨by omega,by omega⟩,m-1,by omega,i+1,x / 2,by omega,?_,by simp [e]⟩
   rw [hx,Nat.div_div_eq_div_mul,Nat.pow_succ]
def Br:dN:=fun args objs K=>match args with
 | [.int .i64 mask,.int .i64 kind]=>(0≤mask∧mask≤1000000)∧(0≤kind∧kind≤1000000)∧K (.bool (Di mask kind)) objs 0
 | _=>False
theorem Ru:aF Tryz.prog 63 (Br):=by
 intro args objs K h
 unfold Br at h
 split at h
 · rename_i mask kind
   obtain ⟨h1,h2,hk⟩:=h
   exact ⟨_,_,_,.pure _ rfl (Vp mask kind h1 h2),hk⟩
 · exact h.elim
theorem Vq (a:lJ) (n:Nd) (ha:fB a.c) (hn:fB n):ah Tryz.prog 78 [dL a,.addr (au n)] [] (.bool (Bool.not (j_ a n))) []:=by
 refine Eh.bg (T:=aQ Tryz.prog [(79,xu)]) 0 hD (aj (af LJ ai)) aV (by decide) fun Q hQ=>?_
 (conv=>arg 4;cbv);simp(maxSteps:=400000)only[↓aS,aT,BEq.rfl,reduceIte,reduceCtorEq,Nat.reduceLT,reduceAdd,reduceSub,reduceMul,Nat.reduceBEq,reduceLeDiff,reduceToNat,reduceLE,hQ]
 refine aR _ (Weak.freeze 1 0 (Nat.zero_le _) _) ?_
 simp(maxSteps:=400000)only[↓aS,aT,BEq.rfl,reduceIte,reduceCtorEq,Nat.reduceLT,reduceAdd,reduceSub,reduceMul,Nat.reduceBEq,reduceLeDiff,reduceToNat,reduceLE,hQ,Te,↓xu]
 exact ⟨ha,hn⟩
def Bt (n:Nd):dN:=fun args objs K=>match args with
 | [a0,a1]=>gZ dL a0 (HK.mk:HK fun a=>a1=(.addr (au n))∧(fB a.c)∧(fB n)∧K (.bool (Bool.not (j_ a n))) objs 0)
 | _=>False
theorem Rv (n:Nd):aF Tryz.prog 78 (Bt n):=by
 intro args objs K h
 unfold Bt at h
 split at h
 · rename_i a0 a1
   obtain ⟨a,rfl,rfl,h1,h2,hk⟩:=h
   exact ⟨_,_,_,.pure _ rfl (Vq a n h1 h2),hk⟩
 · exact h.elim
def kM (n:Nd) (a:lJ):Bool:=Bool.not (j_ a n)
theorem LV (l:List lJ) (n:Nd) (hl:l.length≤4611686018427387904) (ha:∀ a ∈ l,fB a.c) (hn:fB n):ah Tryz.prog 106 [bV l,.fn 78 [] [.addr (au n)]] [] (.int .i64 (idxOf (kM n) l)) []:=by
 refine jJ.bg (T:=aQ Tryz.prog [(78,(Bt n))]) 0 hD (aj (af (Rv n) ai)) aV (by decide) fun Q hQ=>?_
 (conv=>arg 4;cbv);simp(maxSteps:=400000)only[↓aS,aT,BEq.rfl,reduceIte,reduceCtorEq,Nat.reduceLT,reduceAdd,reduceSub,reduceMul,Nat.reduceBEq,reduceLeDiff,reduceToNat,reduceLE,hQ]
 refine aA (fun m S=>∃ i:Nat,i+m=l.length∧(∀ (j:Nat) y,j<i→l[j]?=some y→kM n y=false)∧S=⟨dh 19 [(0,bV l),(1,.fn 78 [] [.addr (au n)]),(7,.int .i64 l.length),(8,.int .i64 i)],[]⟩) l.length ⟨0,by omega,fun j y h=>absurd h (Nat.not_lt_zero j),?_⟩ ?_
 · simp only [bJ,keepR,reduceAdd,kU,Nat.reduceBEq,List.map_nil]
   rfl
 rintro m S ⟨i,him,hb,rfl⟩
 rcases lt_or_ge i l.length with h | h
 rotate_left 1
 · have hlt:((i:Int)<(l.length:Int))=False:=eq_false (by omega)
   have hr:=Gw (l:=l) fun j y hj=>hb j y (by have:=(List.getElem?_eq_some_iff.1 hj).1;omega) hj
   simp(maxSteps:=400000)only[↓aS,aT,BEq.rfl,reduceIte,reduceCtorEq,Nat.reduceLT,reduceAdd,reduceSub,reduceMul,Nat.reduceBEq,reduceLeDiff,reduceToNat,reduceLE,hQ,hlt,hr]
 have hlt:((i:Int)<(l.length:Int))=True:=eq_true (by omega)
 have zi:(0≤(i:Int))=True:=eq_true (by omega)
 have hgi:=List.getElem?_eq_getElem h
 have hao:=ha _ (List.getElem_mem h)
 generalize l[i]=o at hgi hao
 cases hp:j_ o n
 · have hr:idxOf (kM n) l=i:=idxOf_hit hgi (by simp [kM,hp]) hb
   simp(maxSteps:=400000)only[↓aS,aT,BEq.rfl,reduceIte,reduceCtorEq,Nat.reduceLT,reduceAdd,reduceSub,reduceMul,Nat.reduceBEq,reduceLeDiff,reduceToNat,reduceLE,hQ,hlt,zi,hgi,↓Bt,hp,hr]
   exact ⟨hao,hn⟩
 · simp(maxSteps:=400000)only[↓aS,aT,BEq.rfl,reduceIte,reduceCtorEq,Nat.reduceLT,reduceAdd,reduceSub,reduceMul,Nat.reduceBEq,reduceLeDiff,reduceToNat,reduceLE,hQ,hlt,zi,hgi,↓Bt,hp]
   refine ⟨hao,hn,⟨by omega,by omega⟩,m-1,by omega,i+1,by omega,fun j y hj hy=>?_,rfl⟩
   rcases lt_or_ge j i with g | g
   · exact hb j y g hy
   · have:j=i:=by omega
     subst this
     rw [hgi] at hy;cases hy
     simp [kM,hp]
def t_ (n:Nd):dN:=fun args objs K=>match args with
 | [a0,a1]=>gZ bV a0 (HK.mk:HK fun l=>a1=(.fn 78 [] [.addr (au n)])∧(l.length≤4611686018427387904)∧(∀ a ∈ l,fB a.c)∧(fB n)∧K (.int .i64 (idxOf (kM n) l)) objs 0)
 | _=>False
theorem I4 (n:Nd):aF Tryz.prog 106 (t_ n):=by
 intro args objs K h
 unfold t_ at h
 split at h
 · rename_i a0 a1
   obtain ⟨l,rfl,rfl,h1,h2,h3,hk⟩:=h
   exact ⟨_,_,_,.pure _ rfl (LV l n h1 h2 h3),hk⟩
 · exact h.elim
theorem LW (l:List lJ) (n:Nd) (hl:l.length≤4611686018427387904) (ha:∀ a ∈ l,fB a.c) (hn:fB n):ah Tryz.prog 77 [bV l,.fn 78 [] [.addr (au n)]] [] (.bool (l.any (kM n))) []:=by
 refine jh.bg (T:=aQ Tryz.prog [(106,(t_ n))]) 0 hD (aj (af (I4 n) ai)) aV (by decide) fun Q hQ=>?_
 (conv=>arg 4;cbv);simp(maxSteps:=400000)only[↓aS,aT,BEq.rfl,reduceIte,reduceCtorEq,Nat.reduceLT,reduceAdd,reduceSub,reduceMul,Nat.reduceBEq,reduceLeDiff,reduceToNat,reduceLE,hQ,↓t_,J2]
 exact ⟨hl,ha,hn⟩
def ug (n:Nd):dN:=fun args objs K=>match args with
 | [a0,a1]=>gZ bV a0 (HK.mk:HK fun l=>a1=(.fn 78 [] [.addr (au n)])∧(l.length≤4611686018427387904)∧(∀ a ∈ l,fB a.c)∧(fB n)∧K (.bool (l.any (kM n))) objs 0)
 | _=>False
theorem I5 (n:Nd):aF Tryz.prog 77 (ug n):=by
 intro args objs K h
 unfold ug at h
 split at h
 · rename_i a0 a1
   obtain ⟨l,rfl,rfl,h1,h2,h3,hk⟩:=h
   exact ⟨_,_,_,.pure _ rfl (LW l n h1 h2 h3),hk⟩
 · exact h.elim
theorem XT {mask kind:Int}(hm:0≤mask∧mask≤31) (hk:0≤kind∧kind<5):Fp .and .i64 (mask.fdiv (2 ^ min kind.toNat IntKind.i64.bits)) 1=if Di mask kind then 1 else 0:=by
 have key:∀ (m:Fin 32) (k:Fin 5),Fp .and .i64 ((m.val:Int).fdiv (2 ^ min k.val IntKind.i64.bits)) 1=if (m.val / 2 ^ k.val) % 2==1 then 1 else 0:=by decide +kernel
 have:=key ⟨mask.toNat,by omega⟩ ⟨kind.toNat,by omega⟩
 simp only [Int.toNat_of_nonneg hm.1] at this
 exact this
theorem LX (mask:Int) (l:List lJ) (n:Nd) (hm:0≤mask∧mask≤31) (hl:l.length≤1000000) (ha:∀ a ∈ l,fB a.c) (hn:si n) (hs:n.s.length≤1000000):ah Tryz.prog 51 [.int .i64 mask,bV l,au n] [] (.bool (dx mask l n)) []:=by
 refine Ip.bg (T:=aQ Tryz.prog [(76,pu),(77,(ug n))]) 0 hD (aj (af LG (af (I5 n) ai))) aV (by decide) fun Q hQ=>?_
 (conv=>arg 4;cbv);simp(maxSteps:=400000)only[↓aS,aT,BEq.rfl,reduceIte,reduceCtorEq,Nat.reduceLT,reduceAdd,reduceSub,reduceMul,Nat.reduceBEq,reduceLeDiff,reduceToNat,reduceLE,hQ]
 refine aR _ (Weak.freeze 1 0 (Nat.zero_le _) _) ?_
 cases hp:qw n
 · have hr:dx mask l n=false:=by simp [dx,hp]
   simp(maxSteps:=400000)only[↓aS,aT,BEq.rfl,reduceIte,reduceCtorEq,Nat.reduceLT,reduceAdd,reduceSub,reduceMul,Nat.reduceBEq,reduceLeDiff,reduceToNat,reduceLE,hQ,jb,↓pu,hp,hr]
   exact hn
 have hk:=(nI hp).2.2
 have hbit:=XT hm ⟨hk.1,hk.2.1⟩
 have hk0:(0≤n.kind)=True:=eq_true hk.1
 cases hb:Di mask n.kind
 · have hr:dx mask l n=false:=by simp [dx,hb]
   rw [hb,if_neg (by decide)] at hbit
   simp(maxSteps:=400000)only[↓aS,aT,BEq.rfl,reduceIte,reduceCtorEq,Nat.reduceLT,reduceAdd,reduceSub,reduceMul,Nat.reduceBEq,reduceLeDiff,reduceToNat,reduceLE,hQ,jb,↓pu,hp,hr,qL,hbit,hk0]
   exact hn
 · have hr:dx mask l n=!(l.any (kM n)):=by simp [dx,hp,hb,List.all_eq_not_any_not,kM];rfl
   rw [hb,if_pos rfl] at hbit
   simp(maxSteps:=400000)only[↓aS,aT,BEq.rfl,reduceIte,reduceCtorEq,Nat.reduceLT,reduceAdd,reduceSub,reduceMul,Nat.reduceBEq,reduceLeDiff,reduceToNat,reduceLE,hQ,jb,↓pu,hp,hr,qL,hbit,hk0,↓ug,Int.reduceEq]
   exact ⟨hn,by omega,ha,hp,hs⟩
end Lp
namespace Lp
open Go Go.Proofs
open Nat (reduceAdd reduceLeDiff reduceMul reduceSub)
open Int (reduceLE reduceToNat)
theorem LY (mask:Int) (l:List lJ) (n:Nd) (hm:0≤mask∧mask≤1000000) (hl:l.length≤1000000) (ha:∀ a ∈ l,fB a.c) (hn:si n) (hs:n.s.length≤1000000):ah Tryz.prog 37 [.int .i64 mask,bV l,au n] [] (.bool (dx mask l n)) []:=by
 refine xO.bg (T:=aQ Tryz.prog [(62,lu),(63,Br),(64,su)]) 0 hD (aj (af Bo (af Ru (af LK ai)))) aV (by decide) fun Q hQ=>?_
 (conv=>arg 4;cbv);simp(maxSteps:=400000)only[↓aS,aT,BEq.rfl,reduceIte,reduceCtorEq,Nat.reduceLT,reduceAdd,reduceSub,reduceMul,Nat.reduceBEq,reduceLeDiff,reduceToNat,reduceLE,hQ]
 refine aR _ (Weak.freeze 1 0 (Nat.zero_le _) _) ?_
 cases hp:qw n
 · have hr:dx mask l n=false:=by simp [dx,hp]
   simp(maxSteps:=400000)only[↓aS,aT,BEq.rfl,reduceIte,reduceCtorEq,Nat.reduceLT,reduceAdd,reduceSub,reduceMul,Nat.reduceBEq,reduceLeDiff,reduceToNat,reduceLE,hQ,jb,↓lu,hp,hr]
   exact hn
 have hk:=(nI hp).2.2
 have hk':0≤n.kind∧n.kind≤1000000:=⟨hk.1,by omega⟩
 cases hb:Di mask n.kind
 · have hr:dx mask l n=false:=by simp [dx,hb]
   simp(maxSteps:=400000)only[↓aS,aT,BEq.rfl,reduceIte,reduceCtorEq,Nat.reduceLT,reduceAdd,reduceSub,reduceMul,Nat.reduceBEq,reduceLeDiff,reduceToNat,reduceLE,hQ,jb,↓lu,↓Br,hp,hr,hb]
   exact ⟨hn,hm,hk'⟩
 have hr:dx mask l n=l.all fun a=>j_ a n:=by simp [dx,hp,hb]
 simp(maxSteps:=400000)only[↓aS,aT,BEq.rfl,reduceIte,reduceCtorEq,Nat.reduceLT,reduceAdd,reduceSub,reduceMul,Nat.reduceBEq,reduceLeDiff,reduceToNat,reduceLE,hQ,jb,↓lu,↓Br,hp,hr,hb]
 refine ⟨hn,hm,hk',?_⟩
 refine aA (fun m S=>∃ i:Nat,i+m=l.length∧(∀ (j:Nat) y,j<i→l[j]?=some y→j_ y n=true)∧S=⟨dh 31 [(1,bV l),(5,.addr (au n)),(7,.int .i64 i)],[]⟩) l.length ⟨0,by omega,fun j y h=>absurd h (Nat.not_lt_zero j),?_⟩ ?_
 · simp only [bJ,keepR,reduceAdd,kU,Nat.reduceBEq,List.map_nil]
   rfl
 rintro m S ⟨i,him,hbf,rfl⟩
 rcases Nat.lt_or_ge i l.length with h | h
 rotate_left 1
 · have hlt:((i:Int)<(l.length:Int))=False:=eq_false (by omega)
   have hall:(l.all fun a=>j_ a n)=true:=List.all_eq_true.2 fun x hx=>by
    obtain ⟨j,hj⟩:=List.mem_iff_getElem?.1 hx
    exact hbf j x (by have:=(List.getElem?_eq_some_iff.1 hj).1;omega) hj
   simp(maxSteps:=400000)only[↓aS,aT,BEq.rfl,reduceIte,reduceCtorEq,Nat.reduceLT,reduceAdd,reduceSub,reduceMul,Nat.reduceBEq,reduceLeDiff,reduceToNat,reduceLE,hQ,hlt,hr,hall]
 have hlt:((i:Int)<(l.length:Int))=True:=eq_true (by omega)
 have zi:(0≤(i:Int))=True:=eq_true (by omega)
 have hgi:=List.getElem?_eq_getElem h
 have hao:=ha _ (List.getElem_mem h)
 have hmem:=List.getElem_mem h
 generalize l[i]=o at hgi hao hmem
 cases hh:j_ o n
 · have hall:(l.all fun a=>j_ a n)=false:=List.all_eq_false.2 ⟨o,hmem,by simp [hh]⟩
   simp(maxSteps:=400000)only[↓aS,aT,BEq.rfl,reduceIte,reduceCtorEq,Nat.reduceLT,reduceAdd,reduceSub,reduceMul,Nat.reduceBEq,reduceLeDiff,reduceToNat,reduceLE,hQ,hlt,zi,hgi,↓su,hh,hr,hall]
   exact ⟨hao,hp,hs⟩
 · simp(maxSteps:=400000)only[↓aS,aT,BEq.rfl,reduceIte,reduceCtorEq,Nat.reduceLT,reduceAdd,reduceSub,reduceMul,Nat.reduceBEq,reduceLeDiff,reduceToNat,reduceLE,hQ,hlt,zi,hgi,↓su,hh]
   refine ⟨hao,⟨hp,hs⟩,⟨by omega,by omega⟩,m-1,by omega,i+1,by omega,fun j y hj hy=>?_,rfl⟩
   rcases Nat.lt_or_ge j i with g | g
   · exact hbf j y g hy
   · have:j=i:=by omega
     subst this
     rw [hgi] at hy;cases hy
     exact hh
end Lp
namespace Lp
open Go Go.Proofs
theorem Bu:aO Tryz.prog 45 41 [.tmp 4] (gen [] [(35,none)] [] Tryz.f45):=a_ Tryz.func45 rfl (by kernel_rfl)
theorem zA:aO Tryz.prog 25 43 [.tmp 4] (gen [] [(35,none)] [] Tryz.f25):=a_ Tryz.func25 rfl (by kernel_rfl)
theorem zB:aO Tryz.prog 71 74 [.tmp 4] (gen [] [(227,some (1,0))] [] Tryz.f71):=a_ Tryz.func71 rfl (by kernel_rfl)
theorem qH:aO Tryz.prog 73 54 [.tmp 6] (gen [] [(391,none)] [] Tryz.f73):=a_ Tryz.func73 rfl (by kernel_rfl)
theorem zC:aO Tryz.prog 48 87 [.tmp 2] (gen [] [(9,none)] [] Tryz.f48):=a_ Tryz.func48 rfl (by kernel_rfl)
theorem zD:aO Tryz.prog 49 44 [.tmp 4] (gen [7] [(99,none)] [] Tryz.f49):=a_ Tryz.func49 rfl (by kernel_rfl)
theorem Bv:aO Tryz.prog 26 35 [.tmp 2] (gen [] [(9,some (1,0))] [] Tryz.f26):=a_ Tryz.func26 rfl (by kernel_rfl)
theorem C9:aO Tryz.prog 8 12 [.tmp 4] (gen [] [] [] Tryz.f8):=a_ Tryz.func8 rfl (by kernel_rfl)
theorem Bw:aO Tryz.prog 114 64 [.cell 6 42,.tmp 7] (gen [] [(71,none),(71,none)] [] Tryz.f114):=a_ Tryz.func114 rfl (by kernel_rfl)
theorem xU:aO Tryz.prog 111 19 [.tmp 4] (gen [] [(100,none)] [] Tryz.f111):=a_ Tryz.func111 rfl (by kernel_rfl)
theorem xV:aO Tryz.prog 87 60 [.cell 4 42,.tmp 5] (gen [] [] [] Tryz.f87):=a_ Tryz.func87 rfl (by kernel_rfl)
theorem sw:aO Tryz.prog 60 98 [.tmp 2] (gen [14] [(25,some (1,1)),(521,none)] [] Tryz.f60):=a_ Tryz.func60 rfl (by kernel_rfl)
theorem zF:aO Tryz.prog 32 28 [.cell 4 42,.tmp 5] (gen [] [(211,none)] [] Tryz.f32):=a_ Tryz.func32 rfl (by kernel_rfl)
theorem zG:aO Tryz.prog 20 47 [.tmp 2] (gen [9,28] [(57,none)] [11] Tryz.f20):=a_ Tryz.func20 rfl (by kernel_rfl)
theorem zH:aO Tryz.prog 24 34 [.tmp 2] (gen [6] [(57,none)] [] Tryz.f24):=a_ Tryz.func24 rfl (by kernel_rfl)
theorem Bz:aO Tryz.prog 21 56 [.tmp 6] (gen [15] [(390,some (1,2))] [] Tryz.f21):=a_ Tryz.func21 rfl (by kernel_rfl)
theorem O9:aO Tryz.prog 82 19 [.tmp 4] (gen [] [(35,none)] [] Tryz.f82):=a_ Tryz.func82 rfl (by kernel_rfl)
theorem O_:aO Tryz.prog 81 28 [] (gen [] [(779,none)] [] Tryz.f81):=a_ Tryz.func81 rfl (by kernel_rfl)
theorem Vr:aO Tryz.prog 54 4 [.tmp 2] (gen [] [] [] Tryz.f54):=a_ Tryz.func54 rfl (by kernel_rfl)
theorem iJ:aO Tryz.prog 55 8 [.tmp 2] (gen [5] [] [] Tryz.f55):=a_ Tryz.func55 rfl (by kernel_rfl)
theorem Rw:aO Tryz.prog 30 24 [.tmp 2] (gen [] [(0,none)] [7] Tryz.f30):=a_ Tryz.func30 rfl (by kernel_rfl)
theorem LZ:aO Tryz.prog 52 35 [.tmp 4] (gen [] [(3670048,some (1,1))] [] Tryz.f52):=a_ Tryz.func52 rfl (by kernel_rfl)
theorem GX:aO Tryz.prog 28 10 [.tmp 2] (gen [] [] [] Tryz.f28):=a_ Tryz.func28 rfl (by kernel_rfl)
theorem XU:aO Tryz.prog 11 81 [.tmp 2] (gen [] [(61572651155681,none)] [21] Tryz.f11):=a_ Tryz.func11 rfl (by kernel_rfl)
theorem Rx:aO Tryz.prog 14 20 [.tmp 4] (gen [] [(6240,none)] [] Tryz.f14):=a_ Tryz.func14 rfl (by kernel_rfl)
theorem zI:aO Tryz.prog 9 44 [.tmp 0] (gen [] [] [] Tryz.f9):=a_ Tryz.func9 rfl (by kernel_rfl)
theorem wC:aO Tryz.prog 7 64 [.tmp 6] (gen [] [(1923,none)] [] Tryz.f7):=a_ Tryz.func7 rfl (by kernel_rfl)
end Lp
namespace Lp
open Go
open List (cons_append drop_eq_getElem_cons flatten_cons length_drop length_take nil_append)
namespace Y
theorem pW (L:Nat) (v:bf):gY L v 0=some 0:=by cases v <;> rfl
theorem KY (L:Nat):∀ (v:bf) (k c i:Nat),gY L v k=some c→i<c→∃ k' c',gY L (v.drop i) (k'+1)=some c'
 | v,0,c,i,h,hi=>by rw [pW] at h;cases h;omega
 | [],k+1,c,i,h,hi=>by simp [gY] at h
 | n::v,k+1,c,0,h,hi=>⟨k,c,by simpa using h⟩
 | n::v,k+1,c,i+1,h,hi=>by
  rw [gY] at h
  split at h
  · cases h
  · cases hs:gY L v (k+n.many.toNat) with
    | none=>rw [hs] at h;simp at h
    | some c'=>
     rw [hs] at h
     simp only [Option.map_some,Option.some.injEq] at h
     simpa using KY L v _ c' i hs (by omega)
theorem rX (L:Nat):∀ (v:bf) (j k c:Nat),gY L v (j+k)=some c→∃ c1 c2,gY L v j=some c1∧gY L (v.drop c1) k=some c2∧c=c1+c2
 | v,0,k,c,h=>⟨0,c,pW L v,by simpa using h,by simp⟩
 | [],j+1,k,c,h=>by
  rw [show j+1+k=(j+k)+1 by omega] at h
  simp [gY] at h
 | n::v,j+1,k,c,h=>by
  rw [show j+1+k=(j+k)+1 by omega,gY] at h
  split at h
  · cases h
  · rename_i hn
    cases hs:gY L v (j+k+n.many.toNat) with
    | none=>rw [hs] at h;simp at h
    | some c'=>
     rw [hs] at h
     simp only [Option.map_some,Option.some.injEq] at h
     rw [show j+k+n.many.toNat=(j+n.many.toNat)+k by omega] at hs
     obtain ⟨c1,c2,h1,h2,rfl⟩:=rX L v _ k c' hs
     refine ⟨c1+1,c2,?_,by simpa using h2,by omega⟩
     rw [gY,if_neg hn,h1];rfl
theorem lW (L:Nat):∀ (v:bf) (k c:Nat),skip v k=some c→c≤L→gY L v k=some c
 | v,0,c,h,_=>by cases v <;> simpa [gY,skip] using h
 | [],k+1,c,h,_=>by simp [skip] at h
 | n::v,k+1,c,h,hc=>by
  obtain ⟨hm,c',rfl,h'⟩:=cB h
  have:=dG _ _ _ h'
  rw [gY,if_neg (by omega),lW L v _ c' h' (by omega)];rfl
def p9 (t:bf) (i:Nat):bf:=match skip (t.drop i) 1 with | some c=>(t.drop i).take c | none=>[]
theorem uh {t:bf}{i:Nat}{x:fe}(ho:One t) (hx:t[i]?=some x):∃ ps c,0≤x.many∧x.many≤t.length∧parts x.many.toNat (t.drop (i+1))=some ps∧skip (t.drop (i+1)) x.many.toNat=some c∧ps.flatten=(t.drop (i+1)).take c∧(∀ p ∈ ps,One p)∧
  p9 t i=x::ps.flatten∧i+1+c≤t.length:=by
 obtain ⟨hi,rfl⟩:=List.getElem?_eq_some_iff.1 hx
 obtain ⟨c,hc⟩:=ho.at hi
 have hc0:=hc
 rw [drop_eq_getElem_cons hi] at hc
 obtain ⟨hm,c',rfl,h'⟩:=cB (k:=0) hc
 rw [Nat.zero_add] at h'
 obtain ⟨ps,h1,h2,h3⟩:=eB _ _ _ h'
 have hl:=dG _ _ _ h'
 rw [length_drop] at hl
 refine ⟨ps,c',hm,by omega,h1,h',h2,h3,?_,by omega⟩
 unfold p9
 rw [hc0]
 simp only
 rw [drop_eq_getElem_cons hi,List.take_succ_cons,h2]
end Y
def l_ (x:fe):Option (List UInt8)→List bf→Bool
 | _,[]=>true
 | prev,p::ps=>Cb x p && (x.kind !=2 || (match prev with | none=>true | some a=>Op.bytesLess a (Y.nameOf p))) && l_ x (some (Y.nameOf p)) ps
theorem Pb (x:fe):∀ (ps:List bf) (prev:Option (List UInt8)),l_ x prev ps=(ps.all (Cb x) && (x.kind !=2 || zQ ((match prev with | none=>[] | some a=>[a])++ps.map Y.nameOf)))
 | [],prev=>by cases prev <;> simp [l_,zQ]
 | p::ps,prev=>by
  have ih:=Pb x ps (some (Y.nameOf p))
  simp only [l_,ih,List.all_cons,List.map_cons]
  cases prev with
  | none=>
   simp only [nil_append,cons_append]
   cases Cb x p <;> cases ps.all (Cb x) <;> cases (x.kind !=2) <;> simp
  | some a=>
   simp only [nil_append,cons_append]
   rw [zQ]
   cases Cb x p <;> cases ps.all (Cb x) <;> cases (x.kind !=2) <;> simp
theorem Vs (x:fe) (ps:List bf):l_ x none ps=zR x ps:=by
 rw [Pb];rfl
def zJ (t:bf) (i:Nat):Bool:=match t.drop i with
 | n::r=>(match Y.parts n.many.toNat r with | some ps=>zR n ps | none=>false)
 | []=>true
def kC (t:bf) (i:Nat):Bool:=match t.drop i with
 | n::r=>(match Y.parts n.many.toNat r with | some ps=>Fg iR n ps | none=>false)
 | []=>true
theorem Ry {t:bf}{i:Nat}{n:fe}(hi:t[i]?=some n):Y.fA (qj bI iR) (t.drop i)=(b_ bI n && zJ t i && kC t i && Y.fA (qj bI iR) (t.drop (i+1))):=by
 have hl:=(List.getElem?_eq_some_iff.1 hi).1
 have hd:=drop_eq_getElem_cons hl
 rw [List.getElem?_eq_getElem hl] at hi
 cases hi
 simp only [zJ,kC,hd,Y.fA]
 cases Y.parts (t[i]).many.toNat (t.drop (i+1)) with
 | none=>simp
 | some ps=>simp [qj]
def jH (t:bf) (i:Nat) (p:List Stp):Int:=match rq p (Y.p9 t i) with
 | some j=>(i+j:Nat)
 | none=>-1
theorem GY:∀ (p:List Stp) (t:bf) (j:Nat),Y.One t→rq p t=some j→j<t.length
 | [],t,j,ho,h=>by
  simp only [rq,Option.some.injEq] at h
  subst h
  exact List.length_pos_iff.2 ho.ne
 | s::p,[],j,ho,_=>absurd rfl ho.ne
 | s::p,x::r,j,ho,h=>by
  obtain ⟨hm,ps,h1,h2,h3⟩:=ho.parts
  have hp:Y.partsOf x r=ps:=by simp [Y.partsOf,h1]
  simp only [rq,hp] at h
  split at h
  · cases hf:uL s.name 1 ps with
    | none=>rw [hf] at h;cases h
    | some oq=>
     obtain ⟨o,q⟩:=oq
     rw [hf] at h
     simp only [Option.map_eq_some_iff] at h
     obtain ⟨k,hk,rfl⟩:=h
     have gen:∀ (qs:List bf) (o0:Nat),uL s.name o0 qs=some (o,q)→q ∈ qs∧o+q.length≤o0+qs.flatten.length:=by
      intro qs
      induction qs with
      | nil=>intro o0 h;simp [uL] at h
      | cons a t ih=>
       intro o0 h
       simp only [uL] at h
       split at h
       · simp only [Option.some.injEq,Prod.mk.injEq] at h
         obtain ⟨rfl,rfl⟩:=h
         exact ⟨List.mem_cons_self ..,by simp only [flatten_cons,List.length_append];omega⟩
       · obtain ⟨g1,g2⟩:=ih _ h
         exact ⟨List.mem_cons_of_mem _ g1,by simp only [flatten_cons,List.length_append];omega⟩
     obtain ⟨g1,g2⟩:=gen ps 1 hf
     have:=GY p q k (h3 q g1) hk
     rw [h2] at g2
     simp only [List.length_cons]
     omega
  · cases h
theorem XV {t:bf}{i:Nat}{p:List Stp}(ho:Y.One t) (hi:i<t.length):jH t i p<t.length∧(0≤jH t i p∨jH t i p=-1):=by
 unfold jH
 cases h:rq p (Y.p9 t i) with
 | none=>
  show (-1:Int)<t.length∧(0≤(-1:Int)∨(-1:Int)=-1)
  exact ⟨by omega,.inr rfl⟩
 | some j=>
  obtain ⟨ps,c,_,_,_,_,h5,h6,h7,h8⟩:=Y.uh ho (List.getElem?_eq_getElem hi)
  have hs:(Y.p9 t i).length=1+c:=by
   rw [h7,List.length_cons,h5,length_take,length_drop];omega
  have hone:Y.One (Y.p9 t i):=by
   rw [h7]
   exact Y.One.made (by
    have:=Y.bP _ _ _ ‹Y.parts _ _=some ps›
    omega) h6
  have:=GY p _ j hone h
  simp only
  omega
theorem Zd {t:bf}{i j:Nat}(ho:Y.One t) (hi:i<t.length) (hj:j<(Y.p9 t i).length):(Y.p9 t i)[j]?=t[i+j]?:=by
 obtain ⟨ps,c,_,_,_,_,h5,h6,h7,h8⟩:=Y.uh ho (List.getElem?_eq_getElem hi)
 have e:Y.p9 t i=(t.drop i).take (c+1):=by rw [h7,h5,drop_eq_getElem_cons hi,List.take_succ_cons]
 rw [e] at hj ⊢
 rw [length_take,length_drop] at hj
 rw [List.getElem?_take,if_pos (by omega),List.getElem?_drop]
theorem sub_one {t:bf}{i:Nat}(ho:Y.One t) (hi:i<t.length):Y.One (Y.p9 t i):=by
 obtain ⟨ps,c,_,_,h3,_,h5,h6,h7,h8⟩:=Y.uh ho (List.getElem?_eq_getElem hi)
 rw [h7]
 exact Y.One.made (by have:=Y.bP _ _ _ h3;omega) h6
theorem XW {t:bf}{i:Nat}{p:List Stp}(ho:Y.One t) (hi:i<t.length):(VY p (Y.p9 t i)).isSome=true↔0≤jH t i p∧∃ x,t[(jH t i p).toNat]?=some x∧x.kind=1:=by
 unfold VY jH
 cases h:rq p (Y.p9 t i) with
 | none=>simp
 | some j=>
  have hj:=GY p _ j (sub_one ho hi) h
  have hr:=Zd ho hi hj
  simp only [Int.toNat_natCast]
  rw [hr]
  constructor
  · intro hs
    split at hs
    · rename_i hk
      cases hx:t[i+j]? with
      | none=>rw [hx] at hk;simp at hk
      | some x=>rw [hx] at hk;exact ⟨by omega,x,rfl,by simpa using hk⟩
    · cases hs
  · rintro ⟨_,x,hx,hk⟩
    rw [hx,Option.map_some,hk]
    rfl
def fK (t:bf):Bool:=!t.isEmpty && Y.nameOf t==[] && Y.kindOf t !=9 && (Y.gY t.length t 1==some t.length) && Y.fA (qj bI iR) t
def qI (t:bf):Bool:=fK t && Y.fA HY t
theorem J3 {t:bf}(h:fK t=true):Kj bI iR t:=by
 simp only [fK,Bool.and_eq_true,beq_iff_eq,bne_iff_ne] at h
 obtain ⟨⟨⟨⟨_,h1⟩,h2⟩,h3⟩,h4⟩:=h
 exact ⟨Y.nE _ _ _ _ h3,h1,h2,(Y.kZ t).1 h4⟩
theorem Vt {pk:List UInt8→Bool}{yB:List UInt8→List Stp}{n:fe}{ps:List bf}(hk:n.kind=1) (XY:zR n ps=true) (ho:∀ p ∈ ps,Y.One p) (hg:∀ p ∈ ps,Y.Good (qj pk yB) p) :
  ps.flatten.length=ps.length∧∀ x ∈ ps.flatten,nY (jC x)=true∧x.kind=9∧x.s=[]∧x.many=0:=by
 have hone:∀ p ∈ ps,∃ x,p=[x]∧x.kind=9∧x.s=[]∧x.many=0∧nY (jC x)=true:=fun p hp=>by
  refine TS (ho p hp) (hg p hp) ?_
  simp only [zR,Bool.and_eq_true,List.all_eq_true] at XY
  have:=XY.1 p hp
  simp only [Cb,Bool.and_eq_true,hk] at this
  have h9:=this.1.1
  simpa using h9
 clear XY ho hg
 induction ps with
 | nil=>exact ⟨rfl,fun x hx=>by cases hx⟩
 | cons q qs ih=>
  obtain ⟨i1,i2⟩:=ih fun p hp=>hone p (List.mem_cons_of_mem _ hp)
  obtain ⟨x,rfl,x1,x2,x3,x4⟩:=hone q (List.mem_cons_self ..)
  refine ⟨by simp [i1],fun y hy=>?_⟩
  simp only [flatten_cons,cons_append,nil_append,List.mem_cons] at hy
  rcases hy with rfl | hy
  · exact ⟨x4,x1,x2,x3⟩
  · exact i2 y hy
theorem Ty {t:bf}{i:Nat}{n:fe}(hr:Kj bI iR t) (hn:t[i]?=some n) (hk:n.kind=1) :
  ∃ ps,Y.parts n.many.toNat (t.drop (i+1))=some ps∧ps.flatten=(t.drop (i+1)).take n.many.toNat∧0≤n.many∧i+1+n.many.toNat≤t.length∧1≤n.n∧n.n≤31∧∀ x ∈ ps.flatten,nY (jC x)=true:=by
 obtain ⟨hi,rfl⟩:=List.getElem?_eq_some_iff.1 hn
 obtain ⟨ps,c,h1,h2,h3,h4,h5,h6,h7,h8⟩:=Y.uh hr.one (List.getElem?_eq_getElem hi)
 obtain ⟨qs,q1,q2⟩:=hr.good i t[i] (t.drop (i+1)) (drop_eq_getElem_cons hi)
 rw [h3] at q1;cases q1
 simp only [qj,Bool.and_eq_true] at q2
 have hgs:Y.Good (qj bI iR) ps.flatten:=by
  have hg0:=hr.good
  rw [← List.take_append_drop (i+1) t] at hg0
  have hg1:=hg0.suf
  rw [← List.take_append_drop c (t.drop (i+1)),← h5] at hg1
  have hone:Y.skip ps.flatten ps.length=some ps.flatten.length:=Y.jT ps h6
  intro j m s hd
  obtain ⟨qs,e1,e2⟩:=hg1 j m (s++(t.drop (i+1)).drop c) (Y.uZ hd)
  have hj:j<ps.flatten.length:=by
   rcases Nat.lt_or_ge j ps.flatten.length with h | h
   · exact h
   · rw [List.drop_eq_nil_of_le h] at hd;cases hd
  obtain ⟨k',c',hk'⟩:=Y.oU ps.flatten ps.length _ j hone hj
  rw [hd] at hk'
  obtain ⟨_,c2,rfl,hk2⟩:=Y.cB hk'
  obtain ⟨ca,cb,hka,_,_⟩:=Y.nG _ m.many.toNat k' c2 (by rw [Nat.add_comm];exact hk2)
  obtain ⟨rs,r1,_,_⟩:=Y.eB _ _ _ hka
  have:=Y.iq _ _ ((t.drop (i+1)).drop c) _ r1
  rw [e1] at this;cases this
  exact ⟨qs,r1,e2⟩
 obtain ⟨a1,a2⟩:=Vt hk q2.1.2 h6 (Y.Good.kP ps h6 hgs)
 have hpl:=Y.bP _ _ _ h3
 have hcl:ps.flatten.length=c:=by rw [h5,length_take,length_drop];omega
 have hc:c=(t[i]).many.toNat:=by omega
 have hp:=q2.1.1
 simp only [b_,hk,Int.reduceEq,if_false,if_true,Bool.and_eq_true,decide_eq_true_eq] at hp
 exact ⟨ps,h3,by rw [h5,hc],h1,by omega,hp.1.1.1.2,hp.1.1.2,fun x hx=>(a2 x hx).1⟩
def xB (t:bf) (i:Nat):Bool:=match t.drop i with
 | n::r=>(match Y.parts n.many.toNat r with | some ps=>HY n ps | none=>false)
 | []=>true
theorem Rz {t:bf}{i:Nat}{n:fe}(hi:t[i]?=some n):Y.fA HY (t.drop i)=(xB t i && Y.fA HY (t.drop (i+1))):=by
 have hl:=(List.getElem?_eq_some_iff.1 hi).1
 have hd:=drop_eq_getElem_cons hl
 rw [List.getElem?_eq_getElem hl] at hi
 cases hi
 simp only [xB,hd,Y.fA]
 rfl
end Lp
namespace Lp
open Go Go.Proofs
def p_ (v:bf) (i:Nat):Int:=match Y.gY v.length (v.drop i) 1 with
 | some c=>(i+c:Nat)
 | none=>-1
theorem zK {v:bf}{i:Nat}(h:(Y.gY v.length (v.drop i) 1).map (fun c=>i+c)=none):p_ v i=-1:=by
 unfold p_
 cases hx:Y.gY v.length (v.drop i) 1 with
 | none=>rfl
 | some c=>rw [hx] at h;simp at h
theorem GZ {v:bf}{i j:Nat}(h:(Y.gY v.length (v.drop i) 1).map (fun c=>i+c)=some j):p_ v i=j:=by
 unfold p_
 cases hx:Y.gY v.length (v.drop i) 1 with
 | none=>rw [hx] at h;simp at h
 | some c=>rw [hx] at h;simp only [Option.map_some,Option.some.injEq] at h;rw [← h]
theorem J4 (L:Nat) (v:bf):Y.gY L v 0=some 0:=by cases v <;> rfl
theorem RA (v:bf) (i:Nat) (hi:i≤v.length) (hl:v.length≤1000000):ah Tryz.prog 45 [aH v,.int .i64 i] [] (.int .i64 (p_ v i)) []:=by
 refine Bu.bg (T:=aQ Tryz.prog []) 0 hD (aj ai) aV (by decide) fun Q hQ=>?_
 (conv=>arg 4;cbv);simp(maxSteps:=400000)only[↓ax,ay,BEq.rfl,reduceIte,reduceCtorEq,Nat.reduceLT,Nat.reduceAdd,Nat.reduceSub,Nat.reduceMul,Nat.reduceBEq,Nat.reduceLeDiff,Int.reduceToNat,Int.reduceLE,hQ]
 refine aA (fun m S=>∃ j k:Nat,j+m=v.length∧k≤1+j*1000000∧(Y.gY v.length (v.drop i) 1).map (fun c=>i+c)=(Y.gY v.length (v.drop j) k).map (fun c=>j+c)∧
  S=⟨dh 41 [(0,aH v),(1,.int .i64 j),(5,.int .i64 k)],[]⟩) (v.length-i) ⟨i,1,by omega,by omega,rfl,?_⟩ ?_
 · simp only [bJ,keepR,Nat.reduceAdd,kU,Nat.reduceBEq,List.map_nil]
   rfl
 rintro m S ⟨j,k,hjm,hk,hn,rfl⟩
 rcases Nat.lt_or_ge j v.length with h | h
 · have hg:=List.getElem?_eq_getElem h
   have hd:=List.drop_eq_getElem_cons h
   generalize v[j]=n at hg hd
   simp(maxSteps:=400000)only[↓ax,ay,BEq.rfl,reduceIte,reduceCtorEq,Nat.reduceLT,Nat.reduceAdd,Nat.reduceSub,Nat.reduceMul,Nat.reduceBEq,Nat.reduceLeDiff,Int.reduceToNat,Int.reduceLE,hQ,hg]
   refine ⟨fun hk0=>⟨fun h'=>absurd h' (by omega),fun _=>⟨by omega,fun hm=>?_,fun hm=>⟨by omega,fun hm2=>?_,fun hm2=>?_⟩⟩⟩,fun hk0=>?_⟩
   · obtain ⟨k,rfl⟩:∃ q,k=q+1:=⟨k-1,by omega⟩
     rw [hd,Y.gY,if_pos (.inl hm)] at hn
     rw [zK hn]
   · obtain ⟨k,rfl⟩:∃ q,k=q+1:=⟨k-1,by omega⟩
     rw [hd,Y.gY,if_pos (.inr hm2)] at hn
     rw [zK hn]
   · obtain ⟨k,rfl⟩:∃ q,k=q+1:=⟨k-1,by omega⟩
     rw [hd,Y.gY,if_neg (by omega)] at hn
     have hk2:(((k+1:Nat):Int)-1+n.many)=((k+n.many.toNat:Nat):Int):=by omega
     refine ⟨⟨by omega,by omega⟩,by omega,⟨by omega,by omega⟩,⟨by omega,by omega⟩,m-1,by omega,j+1,k+n.many.toNat,by omega,by omega,?_,?_⟩
     · rw [hn]
       cases Y.gY v.length (v.drop (j+1)) (k+n.many.toNat) with
       | none=>rfl
       | some c=>simp;omega
     · rw [hk2];rfl
   · have hk1:k=0:=by omega
     subst hk1
     rw [J4] at hn
     rw [GZ (j:=j) (by simpa using hn)]
 · simp(maxSteps:=400000)only[↓ax,ay,BEq.rfl,reduceIte,reduceCtorEq,Nat.reduceLT,Nat.reduceAdd,Nat.reduceSub,Nat.reduceMul,Nat.reduceBEq,Nat.reduceLeDiff,Int.reduceToNat,Int.reduceLE,hQ]
   refine ⟨fun hk0=>⟨fun _=>?_,fun h'=>absurd (by omega) h'⟩,fun hk0=>?_⟩
   · obtain ⟨k,rfl⟩:∃ q,k=q+1:=⟨k-1,by omega⟩
     rw [List.drop_eq_nil_of_le h] at hn
     simp only [Y.gY,Option.map_none] at hn
     rw [zK hn]
   · have hk1:k=0:=by omega
     subst hk1
     rw [J4] at hn
     rw [GZ (j:=j) (by simpa using hn)]
theorem Pf (v:bf) (i:Int) (h0:0≤i) (hi:i.toNat≤v.length) (hl:v.length≤1000000):ah Tryz.prog 45 [aH v,.int .i64 i] [] (.int .i64 (p_ v i.toNat)) []:=by
 have e:i=(i.toNat:Int):=by omega
 rw [e]
 exact RA v i.toNat hi hl
def eO:dN:=fun args objs K=>match args with
 | [a0,.int .i64 i]=>gZ aH a0 (HK.mk:HK fun v=>(0≤i)∧(i.toNat≤v.length)∧(v.length≤1000000)∧K (.int .i64 (p_ v i.toNat)) objs 0)
 | _=>False
theorem mg:aF Tryz.prog 45 (eO):=by
 intro args objs K h
 unfold eO at h
 split at h
 · rename_i a0 i
   obtain ⟨v,rfl,h1,h2,h3,hk⟩:=h
   exact ⟨_,_,_,.pure _ rfl (Pf v i h1 h2 h3),hk⟩
 · exact h.elim
theorem wD {t:bf}{i c:Nat}(h:Y.gY t.length (t.drop i) 1=some c):p_ t i=(i+c:Nat):=by
 simp only [p_,h]
theorem qW (objs:List Obj) (K:KT) :
  (∀ k m nm,bD D 44 [(0,.int .i64 k),(1,.int .i64 m),(2,.str nm)] objs K=K (aX ⟨k,m,nm,[],0,aM⟩) objs 0)∧
  (∀ k n m,bD D 44 [(0,.int .i64 k),(4,.int .i64 n),(1,.int .i64 m)] objs K=K (aX ⟨k,m,[],[],n,aM⟩) objs 0)∧
  (∀ k n c,bD D 44 [(0,.int .i64 k),(4,.int .i64 n),(5,au c)] objs K=K (aX ⟨k,0,[],[],n,c⟩) objs 0)∧
  (∀ k n,bD D 44 [(0,.int .i64 k),(4,.int .i64 n)] objs K=K (aX ⟨k,0,[],[],n,aM⟩) objs 0)∧
  (∀ k,bD D 44 [(0,.int .i64 k)] objs K=K (aX ⟨k,0,[],[],0,aM⟩) objs 0)∧
  (bD D 44 [] objs K=K (aX ⟨0,0,[],[],0,aM⟩) objs 0):=by
 have z:aK (D 44)=aX ⟨0,0,[],[],0,aM⟩:=by kernel_rfl
 have a:(D 44).agg=true:=by kernel_rfl
 simp only [bR] at z a
 refine ⟨fun k m nm=>?_,fun k n m=>?_,fun k n c=>?_,fun k n=>?_,fun k=>?_,?_⟩
 all_goals
  simp [bD,mP,a,z,bR,nO,aX,au,aM,PV.isAgg,sU,PV.cells,PV.storable,PV.mH,PV.pure]
theorem gq:PV.ve (.agg ⟨[.int .i64 0,.int .i64 0,.string ⟨⟨[]⟩⟩,.string ⟨⟨[]⟩⟩,.int .i64 0,.int .i64 0,.int .i64 0,.string ⟨⟨[]⟩⟩,.string ⟨⟨[]⟩⟩,.bool false,.int .i64 0]⟩)=aX ⟨0,0,[],[],0,aM⟩:=rfl
theorem atB (objs:List Obj) (K:KT):(∀ n c,bD D 87 [(0,.int .i64 n),(1,au c)] objs K=K (dL ⟨n,c⟩) objs 0):=by
 have z:aK (D 87)=dL ⟨0,aM⟩:=by kernel_rfl
 have a:(D 87).agg=true:=by kernel_rfl
 simp only [bR] at z a
 intro n c
 simp [bD,mP,a,z,bR,nO,dL,au,aM,PV.isAgg,sU,PV.cells,PV.storable,PV.mH,PV.pure]
theorem gP (a:fe) (k m:Int) (nm s:List UInt8) (n ck cm:Int) (cn cs:List UInt8) (cg:Bool) (ce:Int):(aX a).putCells 0 [.int .i64 k,.int .i64 m,.str nm,.str s,.int .i64 n,.int .i64 ck,.int .i64 cm,.str cn,.str cs,.bool cg,.int .i64 ce]=aX ⟨k,m,nm,s,n,⟨ck,cm,cn,cs,cg,ce⟩⟩:=rfl
theorem uj:(∀ x:fe,PV.agg [.int .i64 x.kind,.int .i64 x.many,.str x.name,.str x.s,.int .i64 x.n,.int .i64 x.c.kind,.int .i64 x.c.many,.str x.c.name,.str x.c.s,.bool x.c.neg,.int .i64 x.c.e]=aX x)∧
  (∀ (x:fe) nm,PV.agg [.int .i64 x.kind,.int .i64 x.many,.str nm,.str x.s,.int .i64 x.n,.int .i64 x.c.kind,.int .i64 x.c.many,.str x.c.name,.str x.c.s,.bool x.c.neg,.int .i64 x.c.e]=aX { x with name:=nm }):=⟨fun _=>rfl,fun _ _=>rfl⟩
theorem bG (n:Nd):Nd.mk n.kind n.many n.name n.s n.neg n.e=n:=rfl
theorem dF (x:fe):fe.mk x.kind x.many x.name x.s x.n x.c=x:=rfl
theorem abb:PV.ve (.agg ⟨[.int .i64 0,.int .i64 0,.int .i64 0,.string ⟨⟨[]⟩⟩,.string ⟨⟨[]⟩⟩,.bool false,.int .i64 0]⟩)=dL ⟨0,aM⟩:=rfl
theorem L6 (v:List lJ) (ver:Nat) (t:TypeId) (rest:List Obj):eP 1 0 (⟨t,7,v.map dL,true,ver⟩::rest) (.aY 0 ver)=bV v:=by
 have:(v.map dL).map (PV.bC (fG 0 0 (⟨t,7,v.map dL,true,ver⟩::rest)))=v.map dL:=by
  rw [List.map_map];exact List.map_congr_left fun x _=>rfl
 simp only [eP,Nat.not_lt_zero,if_false,fG,List.getElem?_cons_zero,Nat.le_refl,decide_true,Bool.true_and,beq_self_eq_true,if_true,this]
 rfl
theorem RB:∀ d X v,eP d 1 X (.aY 0 v)=.aY 0 v:=fun _ _ _=>rfl
end Lp
namespace Lp
open Go Go.Proofs
section
variable {P:Program}
theorem Pg {w:World}{d:Nat}{ok:Nat→Prop}{xs ys:Array Value}{gs:List Field}{r2:Bool}(hg:(Op.eqFields (d+1) xs ys gs).run P w=.ok r2 w):∀ (fs:List Field) (k:Nat) (aa bs:List PV) (r:Bool),vO P k fs aa bs=true→BQ aa bs=some r→
  (∀ i p,aa[i]?=some p→∃ v,xs[k+i]?=some v∧dB w ok p v)→(∀ i p,bs[i]?=some p→∃ v,ys[k+i]?=some v∧dB w ok p v)→
  (Op.eqFields (d+1) xs ys (fs++gs)).run P w=.ok (r && r2) w
 | [],k,aa,bs,r,hf,he,_,_=>by
  cases aa <;> cases bs <;> simp [vO] at hf
  simp only [BQ,Option.some.injEq] at he
  subst he
  simpa using hg
 | f::fs,k,aa,bs,r,hf,he,ha,hb=>by
  cases aa with
  | nil=>cases bs <;> simp [vO] at hf
  | cons p aa=>
   cases bs with
   | nil=>simp [vO] at hf
   | cons q bs=>
    simp only [vO,Bool.and_eq_true,beq_iff_eq,bne_iff_ne] at hf
    obtain ⟨⟨⟨hn,ho⟩,ht⟩,hr⟩:=hf
    obtain ⟨v,hv,rv⟩:=ha 0 p rfl
    obtain ⟨u,hu,ru⟩:=hb 0 q rfl
    obtain ⟨b,hb1,hb2,e,he1,he2⟩:=WZ (d:=d) ht rv ru
    simp only [BQ,hb1] at he
    cases hq:BQ aa bs with
    | none=>rw [hq] at he;simp at he
    | some r'=>
     rw [hq] at he
     simp only [Option.some.injEq] at he
     subst he
     have ih:=Pg (w:=w) (d:=d) (ok:=ok) (xs:=xs) (ys:=ys) hg fs (k+1) aa bs r' hr hq (fun i p h=>by have:=ha (i+1) p (by simpa using h);rwa [show k+(i+1)=k+1+i by omega] at this) (fun i p h=>by have:=hb (i+1) p (by simpa using h);rwa [show k+(i+1)=k+1+i by omega] at this)
     have p1:=Ay (w:=w) (xs:=xs) (o:=f.offset) he1 he2 (by rw [ho];simpa using hv)
     have p2:=Ay (w:=w) (xs:=ys) (o:=f.offset) he1 he2 (by rw [ho];simpa using hu)
     simp only [List.cons_append,Op.eqFields,ne_eq,hn,not_false_eq_true,if_true,Sem.run_bind,p1,Result.andThen_ok,p2,hb2]
     cases b
     · simp
     · simpa using ih
theorem Tz:∀ {a1 b1 a2 b2:List PV}{r:Bool},a1.length=b1.length→BQ (a1++a2) (b1++b2)=some r→∃ r1 r2,BQ a1 b1=some r1∧BQ a2 b2=some r2∧r=(r1 && r2)
 | [],[],a2,b2,r,_,h=>⟨true,r,rfl,h,by simp⟩
 | [],_::_,_,_,_,hl,_=>by simp at hl
 | _::_,[],_,_,_,hl,_=>by simp at hl
 | p::a1,q::b1,a2,b2,r,hl,h=>by
  simp only [List.cons_append,BQ] at h
  cases hs:Zz p q with
  | none=>rw [hs] at h;simp at h
  | some x=>
   cases ht:BQ (a1++a2) (b1++b2) with
   | none=>rw [hs,ht] at h;simp at h
   | some y=>
    rw [hs,ht] at h
    simp only [Option.some.injEq] at h
    obtain ⟨r1,r2,h1,h2,rfl⟩:=Tz (by simpa using hl) ht
    refine ⟨x && r1,r2,by simp [BQ,hs,h1],h2,?_⟩
    rw [← h,Bool.and_assoc]
theorem Vu {t:TypeId}{fs:List Field}{g:Field}{a1 a2 b1 b2:List PV}(hgd:P.eqGuardType P.depth t=false) (ht:P.underlying t=some (.struct (P.fieldsOf t))) (hp:P.stoodInHeld t=false)
  (hfs:(P.fieldsOf t).toList=fs++[g]) (hf:vO P 0 fs a1 b1=true) (hn:g.name≠ "_") (ho:g.offset=a1.length) (hl1:a1.length=b1.length) (hl2:a2.length=b2.length)
  (hu:P.underlying g.type=some (.struct (P.fieldsOf g.type))) (hp2:P.stoodInHeld g.type=false) (hs:∀ w,(Go.sizeOf g.type).run P w=.ok a2.length w) (hf2:vO P 0 (P.fieldsOf g.type).toList a2 b2=true) :
  H7 P t (a1++a2) (b1++b2):=by
 refine ⟨hgd,fun w ok vs us r hr h1 h2=>?_⟩
 obtain ⟨r1,r2,e1,e2,rfl⟩:=Tz hl1 hr
 have e:Op.equal t (.agg ⟨vs⟩) (.agg ⟨us⟩)=Op.equalIn (9999+1) t (.agg ⟨vs⟩) (.agg ⟨us⟩):=rfl
 rw [e,run_equalIn_struct w 9999 t _ _ ht hp,hfs]
 have get:∀ {xs:List Value}{c1 c2:List PV},cu (dB w ok) (c1++c2) xs→(∀ i p,c1[i]?=some p→∃ v,(⟨xs⟩:Array Value)[0+i]?=some v∧dB w ok p v)∧(∀ i p,c2[i]?=some p→∃ v,(⟨xs⟩:Array Value)[c1.length+i]?=some v∧dB w ok p v):=by
  intro xs c1 c2 h
  have hlen:=h.1
  rw [List.length_append] at hlen
  constructor
  · intro i p hi
    have hlt:=(List.getElem?_eq_some_iff.1 hi).1
    have hv:xs[i]?=some (xs[i]'(by omega)):=List.getElem?_eq_getElem _
    exact ⟨_,by simpa using hv,h.2 i p _ (by rw [List.getElem?_append_left hlt];exact hi) hv⟩
  · intro i p hi
    have hlt:=(List.getElem?_eq_some_iff.1 hi).1
    have hv:xs[c1.length+i]?=some (xs[c1.length+i]'(by omega)):=List.getElem?_eq_getElem _
    exact ⟨_,by simpa using hv,h.2 _ p _ (by rw [List.getElem?_append_right (by omega)];simpa using hi) hv⟩
 obtain ⟨g1,g2⟩:=get h1
 obtain ⟨k1,k2⟩:=get h2
 refine Pg (d:=9998) (ok:=ok) ?_ fs 0 a1 b1 r1 hf e1 g1 k1
 have pt:∀ xs:Array Value,(part g.type xs g.offset).run P w=.ok (.agg (xs.extract g.offset (g.offset+a2.length))) w:=fun xs=>by
  simp [part,isAgg,run_underlying hu,hs]
 have ext:∀ {xs:Array Value}{c:List PV},c.length=a2.length→(∀ i p,c[i]?=some p→∃ v,xs[g.offset+i]?=some v∧dB w ok p v)→∀ i p,c[i]?=some p→∃ v,(xs.extract g.offset (g.offset+a2.length))[0+i]?=some v∧dB w ok p v:=by
  intro xs c hc h i p hi
  have hlt:=(List.getElem?_eq_some_iff.1 hi).1
  obtain ⟨v,q1,q2⟩:=h i p hi
  refine ⟨v,?_,q2⟩
  have hx:=(Array.getElem?_eq_some_iff.1 q1).1
  rw [Nat.zero_add,Array.getElem?_extract,if_pos (by omega)]
  exact q1
 have hin:=KV (d:=9997) (w:=w) (ok:=ok) (xs:=Array.extract ⟨vs⟩ g.offset (g.offset+a2.length)) (ys:=Array.extract ⟨us⟩ g.offset (g.offset+a2.length)) _ 0 a2 b2 r2 hf2 e2
  (ext rfl (by rw [ho];exact g2)) (ext hl2.symm (by rw [ho,hl1];exact k2))
 have hst:=run_equalIn_struct w 9998 g.type (Array.extract ⟨vs⟩ g.offset (g.offset+a2.length)) (Array.extract ⟨us⟩ g.offset (g.offset+a2.length)) hu hp2
 have hst':(Op.equalIn (9998+1) g.type (.agg (Array.extract ⟨vs⟩ g.offset (g.offset+a2.length))) (.agg (Array.extract ⟨us⟩ g.offset (g.offset+a2.length)))).run P w=.ok r2 w:=hst.trans hin
 simp only [Op.eqFields,ne_eq,hn,not_false_eq_true,if_true,Sem.run_bind,pt,Result.andThen_ok,hst']
 cases r2 <;> simp
end
theorem ack (a b:fe):H7 Tryz.prog 44 (aX a).cells (aX b).cells:=by
 have h:(Tryz.prog.fieldsOf 44).toList.map (fun f=>(f.name != "_",f.offset,f.type))=[(true,0,3),(true,1,3),(true,2,9),(true,3,9),(true,4,3),(true,5,42)]:=by kernel_rfl
 generalize hfs:(Tryz.prog.fieldsOf 44).toList=fs at h
 obtain _ | ⟨f0,_ | ⟨f1,_ | ⟨f2,_ | ⟨f3,_ | ⟨f4,_ | ⟨f5,_ | ⟨f6,fr⟩⟩⟩⟩⟩⟩⟩:=fs
 all_goals simp only [List.map_cons,List.map_nil,List.cons.injEq,Prod.mk.injEq,and_true,reduceCtorEq,and_false] at h
 obtain ⟨⟨a0,b0,c0⟩,⟨a1,b1,c1⟩,⟨a2,b2,c2⟩,⟨a3,b3,c3⟩,⟨a4,b4,c4⟩,⟨a5,b5,c5⟩⟩:=h
 have u3:Tryz.prog.underlying 3=some (.int .i64):=by kernel_rfl
 have u9:Tryz.prog.underlying 9=some .string:=by kernel_rfl
 have hN:=W9 a.c b.c
 have key:=Vu (P:=Tryz.prog) (t:=44) (fs:=[f0,f1,f2,f3,f4]) (g:=f5) (a1:=[.int .i64 a.kind,.int .i64 a.many,.str a.name,.str a.s,.int .i64 a.n]) (b1:=[.int .i64 b.kind,.int .i64 b.many,.str b.name,.str b.s,.int .i64 b.n]) (a2:=(au a.c).cells) (b2:=(au b.c).cells)
  (by kernel_rfl) (by kernel_rfl) (by kernel_rfl) (by rw [hfs];rfl)
  (by simp only [vO,UK,a0,b0,c0,a1,b1,c1,a2,b2,c2,a3,b3,c3,a4,b4,c4,u3,u9,Bool.and_true,BEq.rfl,decide_true,Nat.zero_add,Nat.reduceAdd])
  (by simpa using a5) (by rw [b5];rfl) rfl rfl (by rw [c5];kernel_rfl) (by rw [c5];kernel_rfl) (fun w=>by rw [c5];have h:=(hD 42).dD (by simp [bR]) w;simp only [bR] at h;exact h) (by
   rw [c5]
   have h:(Tryz.prog.fieldsOf 42).toList.map (fun f=>(f.name != "_",f.offset,Tryz.prog.underlying f.type))=[(true,0,some (.int .i64)),(true,1,some (.int .i64)),(true,2,some .string),(true,3,some .string),(true,4,some .bool),(true,5,some (.int .i64))]:=by kernel_rfl
   generalize (Tryz.prog.fieldsOf 42).toList=fs at h
   obtain _ | ⟨f0,_ | ⟨f1,_ | ⟨f2,_ | ⟨f3,_ | ⟨f4,_ | ⟨f5,_ | ⟨f6,fr⟩⟩⟩⟩⟩⟩⟩:=fs
   all_goals simp only [List.map_cons,List.map_nil,List.cons.injEq,Prod.mk.injEq,and_true,reduceCtorEq,and_false] at h
   obtain ⟨⟨a0,b0,c0⟩,⟨a1,b1,c1⟩,⟨a2,b2,c2⟩,⟨a3,b3,c3⟩,⟨a4,b4,c4⟩,⟨a5,b5,c5⟩⟩:=h
   simp only [vO,UK,au,PV.cells,a0,b0,c0,a1,b1,c1,a2,b2,c2,a3,b3,c3,a4,b4,c4,a5,b5,c5,Bool.and_true,BEq.rfl,decide_true,Nat.zero_add,Nat.reduceAdd])
 exact key
end Lp
namespace Lp
open Go Go.Proofs
open Nat (lt_or_ge reduceAdd reduceLeDiff reduceMul reduceSub)
open Int (reduceLE reduceToNat)
def jy (n:fe):Bool:=decide (n.s.length≤100) && decide (n.name.length≤100) && decide (n.c.s.length≤100)
theorem RD (t:bf) (k:Nat) (hk:k≤1000000) (hl:t.length≤4611686018427387904) (htx:∀ n ∈ t,n.s.length≤4611686018427387904∧n.name.length≤4611686018427387904∧n.c.s.length≤4611686018427387904) :
  ah Tryz.prog 25 [aH t,.int .i64 k] [] (.bool (decide (t.length≤k) && t.all jy)) []:=by
 refine zA.bg (T:=aQ Tryz.prog []) 0 hD (aj ai) aV (by decide) fun Q hQ=>?_
 (conv=>arg 4;cbv);simp(maxSteps:=400000)only[↓ax,ay,BEq.rfl,reduceIte,reduceCtorEq,Nat.reduceLT,reduceAdd,reduceSub,reduceMul,Nat.reduceBEq,reduceLeDiff,reduceToNat,reduceLE,hQ]
 refine aA (fun m S=>∃ i:Nat,i+m=t.length∧i≤k∧(∀ (j:Nat) x,j<i→t[j]?=some x→jy x=true)∧S=⟨dh 43 [(0,aH t),(1,.int .i64 k),(5,.int .i64 i)],[]⟩) t.length ⟨0,by omega,by omega,fun j x h=>absurd h (Nat.not_lt_zero j),?_⟩ ?_
 · simp only [bJ,keepR,reduceAdd,kU,Nat.reduceBEq,List.map_nil]
   rfl
 rintro m S ⟨i,him,hik,hb,rfl⟩
 have zi:(0≤(i:Int))=True:=eq_true (by omega)
 rcases lt_or_ge i t.length with h | h
 · have hlt:((i:Int)<(t.length:Int))=True:=eq_true (by omega)
   have hgi:=List.getElem?_eq_getElem h
   have ac4:=htx _ (List.getElem_mem h)
   generalize t[i]=x at hgi ac4
   have no:jy x=false→(decide (t.length≤k) && t.all jy)=false:=fun hx=>by
    have:t.all jy=false:=by rw [List.all_eq_false];exact ⟨x,List.mem_of_getElem? hgi,by simp [hx]⟩
    simp [this]
   rcases lt_or_ge i k with g | g
   rotate_left 1
   · have hkl:((k:Int)≤(i:Int))=True:=eq_true (by omega)
     have hr:(decide (t.length≤k) && t.all jy)=false:=by
      have:decide (t.length≤k)=false:=decide_eq_false (by omega)
      simp [this]
     simp(maxSteps:=400000)only[↓ax,ay,BEq.rfl,reduceIte,reduceCtorEq,Nat.reduceLT,reduceAdd,reduceSub,reduceMul,Nat.reduceBEq,reduceLeDiff,reduceToNat,reduceLE,hQ,hlt,zi,hgi,hkl,hr]
   have hkl:((k:Int)≤(i:Int))=False:=eq_false (by omega)
   by_cases h1:x.s.length≤100
   rotate_left 1
   · have e1:((100:Int)<(x.s.length:Int))=True:=eq_true (by omega)
     have hr:=no (by simp [jy,h1])
     simp(maxSteps:=400000)only[↓ax,ay,BEq.rfl,reduceIte,reduceCtorEq,Nat.reduceLT,reduceAdd,reduceSub,reduceMul,Nat.reduceBEq,reduceLeDiff,reduceToNat,reduceLE,hQ,hlt,zi,hgi,hkl,e1,hr]
   have e1:((100:Int)<(x.s.length:Int))=False:=eq_false (by omega)
   by_cases h2:x.name.length≤100
   rotate_left 1
   · have e2:((100:Int)<(x.name.length:Int))=True:=eq_true (by omega)
     have hr:=no (by simp [jy,h2])
     simp(maxSteps:=400000)only[↓ax,ay,BEq.rfl,reduceIte,reduceCtorEq,Nat.reduceLT,reduceAdd,reduceSub,reduceMul,Nat.reduceBEq,reduceLeDiff,reduceToNat,reduceLE,hQ,hlt,zi,hgi,hkl,e1,e2,hr]
   have e2:((100:Int)<(x.name.length:Int))=False:=eq_false (by omega)
   by_cases h3:x.c.s.length≤100
   rotate_left 1
   · have e3:((100:Int)<(x.c.s.length:Int))=True:=eq_true (by omega)
     have hr:=no (by simp [jy,h3])
     simp(maxSteps:=400000)only[↓ax,ay,BEq.rfl,reduceIte,reduceCtorEq,Nat.reduceLT,reduceAdd,reduceSub,reduceMul,Nat.reduceBEq,reduceLeDiff,reduceToNat,reduceLE,hQ,hlt,zi,hgi,hkl,e1,e2,e3,hr]
   have e3:((100:Int)<(x.c.s.length:Int))=False:=eq_false (by omega)
   simp(maxSteps:=400000)only[↓ax,ay,BEq.rfl,reduceIte,reduceCtorEq,Nat.reduceLT,reduceAdd,reduceSub,reduceMul,Nat.reduceBEq,reduceLeDiff,reduceToNat,reduceLE,hQ,hlt,zi,hgi,hkl,e1,e2,e3]
   refine ⟨⟨by omega,by omega⟩,m-1,by omega,i+1,by omega,by omega,fun j y hj hy=>?_,rfl⟩
   rcases lt_or_ge j i with g' | g'
   · exact hb j y g' hy
   · have:j=i:=by omega
     subst this
     rw [hgi] at hy;cases hy
     simp [jy,h1,h2,h3]
 · have hlt:((i:Int)<(t.length:Int))=False:=eq_false (by omega)
   have hr:(decide (t.length≤k) && t.all jy)=true:=by
    have h1:decide (t.length≤k)=true:=decide_eq_true (by omega)
    have h2:t.all jy=true:=by
     rw [List.all_eq_true];intro x hx
     obtain ⟨j,hj⟩:=List.mem_iff_getElem?.1 hx
     have:=(List.getElem?_eq_some_iff.1 hj).1
     exact hb j x (by omega) hj
    rw [h1,h2];rfl
   simp(maxSteps:=400000)only[↓ax,ay,BEq.rfl,reduceIte,reduceCtorEq,Nat.reduceLT,reduceAdd,reduceSub,reduceMul,Nat.reduceBEq,reduceLeDiff,reduceToNat,reduceLE,hQ,hlt,hr]
def qa:dN:=fun args objs K=>match args with
 | [a0,.int .i64 k]=>gZ aH a0 (HK.mk:HK fun t=>(0≤k)∧(k≤1000000)∧(t.length≤4611686018427387904)∧(∀ n ∈ t,n.s.length≤4611686018427387904∧n.name.length≤4611686018427387904∧n.c.s.length≤4611686018427387904)∧K (.bool (decide (t.length≤k.toNat) && t.all jy)) objs 0)
 | _=>False
theorem I6:aF Tryz.prog 25 (qa):=by
 intro args objs K h
 unfold qa at h
 split at h
 · rename_i a0 k
   obtain ⟨t,rfl,h1,h2,h3,h4,hk⟩:=h
   exact ⟨_,_,_,.pure _ rfl ((by have:=RD t k.toNat (by omega) h3 h4;rwa [Int.toNat_of_nonneg h1] at this)),hk⟩
 · exact h.elim
end Lp
namespace Lp
open Go Go.Proofs
def bW:LC:=
 (.cond (.tmp 105)
        .skip
        (.seq (.reg [⟨some 107,.binOp .eql 3 (.tmp 14) (.const (.int .i64 5)) 3,none,false⟩,
         ⟨some 105,.assign (.tmp 107),none,false⟩])
        (.cond (.tmp 105)
         .skip
         (.reg [⟨some 108,.binOp .eql 3 (.tmp 14) (.const (.int .i64 6)) 3,none,false⟩,
          ⟨some 105,.assign (.tmp 108),none,false⟩]))))
def dV:LC:=
 (.cond (.tmp 117)
         .skip
         (.reg [⟨some 119,.binOp .eql 3 (.tmp 14) (.const (.int .i64 8)) 3,none,false⟩,
          ⟨some 117,.assign (.tmp 119),none,false⟩]))
def dW:LC:=
 (.cond (.tmp 117)
         (.seq (.reg [⟨some 121,.fieldAddr 44 (.tmp 1) 3,none,false⟩,
          ⟨some 122,.load 9 (.tmp 121),none,false⟩,
          ⟨some 123,.call ⟨.value (.func 72),⟨[(.tmp 122)]⟩,⟨[9]⟩⟩,none,false⟩,
          ⟨some 120,.move (.tmp 123),none,false⟩,
          ⟨some 124,.extract (.tmp 120) 0,none,false⟩,
          ⟨some 125,.extract (.tmp 120) 1,none,false⟩,
          ⟨some 4,.assign (.tmp 124),none,false⟩,
          ⟨some 5,.assign (.tmp 125),none,false⟩])
         (.seq (.reg [⟨some 126,.fieldAddr 44 (.tmp 1) 3,none,false⟩,
          ⟨some 127,.load 9 (.tmp 126),none,false⟩,
          ⟨some 128,.fieldAddr 44 (.tmp 3) 3,none,false⟩,
          ⟨none,.store 9 (.tmp 128) (.tmp 127),none,false⟩])
         (.seq (.reg [⟨some 129,.load 44 (.tmp 1),none,false⟩,
          ⟨some 130,.load 44 (.tmp 3),none,false⟩,
          ⟨some 131,.binOp .eql 44 (.tmp 129) (.tmp 130) 44,none,false⟩,
          ⟨some 132,.move (.tmp 131),none,false⟩,
          ⟨some 133,.fieldAddr 44 (.tmp 1) 1,some (some 132,true),false⟩,
          ⟨some 134,.load 3 (.tmp 133),some (some 132,true),false⟩,
          ⟨some 135,.binOp .eql 3 (.tmp 134) (.const (.int .i64 1)) 3,some (some 132,true),false⟩,
          ⟨some 136,.pick (.tmp 132) (.tmp 135) (.const (.bool false)),none,false⟩,
          ⟨some 137,.move (.tmp 136),none,false⟩,
          ⟨some 138,.move (.tmp 5),some (some 137,true),false⟩,
          ⟨some 139,.pick (.tmp 137) (.tmp 138) (.const (.bool false)),none,false⟩,
          ⟨some 2,.assign (.tmp 139),none,false⟩])
         .ret)))
         .skip)
def bX:LC:=
 (.cond (.tmp 105)
        (.seq (.reg [⟨some 109,.load 44 (.tmp 1),none,false⟩,
         ⟨some 110,.load 44 (.tmp 3),none,false⟩,
         ⟨some 111,.binOp .eql 44 (.tmp 109) (.tmp 110) 44,none,false⟩,
         ⟨some 112,.move (.tmp 111),none,false⟩,
         ⟨some 113,.fieldAddr 44 (.tmp 1) 1,some (some 112,true),false⟩,
         ⟨some 114,.load 3 (.tmp 113),some (some 112,true),false⟩,
         ⟨some 115,.binOp .eql 3 (.tmp 114) (.const (.int .i64 1)) 3,some (some 112,true),false⟩,
         ⟨some 116,.pick (.tmp 112) (.tmp 115) (.const (.bool false)),none,false⟩,
         ⟨some 2,.assign (.tmp 116),none,false⟩])
        .ret)
        (.seq (.seq (.weak (.reg [⟨some 118,.binOp .eql 3 (.tmp 14) (.const (.int .i64 7)) 3,none,false⟩,
         ⟨some 117,.assign (.tmp 118),none,false⟩]))
        dV)
        dW))
def gT:LC:=
 (.cond (.tmp 95)
       (.seq (.reg [⟨some 97,.load 44 (.tmp 1),none,false⟩,
        ⟨some 98,.load 44 (.tmp 3),none,false⟩,
        ⟨some 99,.binOp .eql 44 (.tmp 97) (.tmp 98) 44,none,false⟩,
        ⟨some 100,.move (.tmp 99),none,false⟩,
        ⟨some 101,.fieldAddr 44 (.tmp 1) 1,some (some 100,true),false⟩,
        ⟨some 102,.load 3 (.tmp 101),some (some 100,true),false⟩,
        ⟨some 103,.binOp .geq 3 (.tmp 102) (.const (.int .i64 0)) 3,some (some 100,true),false⟩,
        ⟨some 104,.pick (.tmp 100) (.tmp 103) (.const (.bool false)),none,false⟩,
        ⟨some 2,.assign (.tmp 104),none,false⟩])
       .ret)
       (.seq (.seq (.weak (.reg [⟨some 106,.binOp .eql 3 (.tmp 14) (.const (.int .i64 3)) 3,none,false⟩,
        ⟨some 105,.assign (.tmp 106),none,false⟩]))
       bW)
       bX))
def gU:LC:=
 (.cond (.tmp 72)
   (.seq (.reg [⟨some 74,.fieldAddr 44 (.tmp 1) 4,none,false⟩,
    ⟨some 75,.load 3 (.tmp 74),none,false⟩,
    ⟨some 76,.fieldAddr 44 (.tmp 3) 4,none,false⟩,
    ⟨none,.store 3 (.tmp 76) (.tmp 75),none,false⟩])
   (.seq (.reg [⟨some 77,.load 44 (.tmp 1),none,false⟩,
    ⟨some 78,.load 44 (.tmp 3),none,false⟩,
    ⟨some 79,.binOp .eql 44 (.tmp 77) (.tmp 78) 44,none,false⟩,
    ⟨some 80,.move (.tmp 79),none,false⟩,
    ⟨some 81,.fieldAddr 44 (.tmp 1) 1,some (some 80,true),false⟩,
    ⟨some 82,.load 3 (.tmp 81),some (some 80,true),false⟩,
    ⟨some 83,.binOp .geq 3 (.tmp 82) (.const (.int .i64 0)) 3,some (some 80,true),false⟩,
    ⟨some 84,.pick (.tmp 80) (.tmp 83) (.const (.bool false)),none,false⟩,
    ⟨some 85,.move (.tmp 84),none,false⟩,
    ⟨some 86,.fieldAddr 44 (.tmp 1) 4,some (some 85,true),false⟩,
    ⟨some 87,.load 3 (.tmp 86),some (some 85,true),false⟩,
    ⟨some 88,.binOp .eql 3 (.tmp 87) (.const (.int .i64 0)) 3,some (some 85,true),false⟩,
    ⟨some 89,.move (.tmp 88),some (some 85,true),false⟩,
    ⟨some 90,.fieldAddr 44 (.tmp 1) 4,some (some 89,false),false⟩,
    ⟨some 91,.load 3 (.tmp 90),some (some 89,false),false⟩,
    ⟨some 92,.binOp .eql 3 (.tmp 91) (.const (.int .i64 1)) 3,some (some 89,false),false⟩,
    ⟨some 93,.pick (.tmp 89) (.const (.bool true)) (.tmp 92),some (some 85,true),false⟩,
    ⟨some 94,.pick (.tmp 85) (.tmp 93) (.const (.bool false)),none,false⟩,
    ⟨some 2,.assign (.tmp 94),none,false⟩])
   .ret))
   (.seq (.weak (.reg [⟨some 96,.binOp .eql 3 (.tmp 14) (.const (.int .i64 4)) 3,none,false⟩,
    ⟨some 95,.assign (.tmp 96),none,false⟩]))
   gT))
def gV:LC:=
 (.cond (.tmp 48)
   (.seq (.reg [⟨some 50,.fieldAddr 44 (.tmp 1) 4,none,false⟩,
    ⟨some 51,.load 3 (.tmp 50),none,false⟩,
    ⟨some 52,.fieldAddr 44 (.tmp 3) 4,none,false⟩,
    ⟨none,.store 3 (.tmp 52) (.tmp 51),none,false⟩])
   (.seq (.reg [⟨some 53,.fieldAddr 44 (.tmp 1) 5,none,false⟩,
    ⟨some 54,.load 42 (.tmp 53),none,false⟩,
    ⟨some 55,.fieldAddr 44 (.tmp 3) 5,none,false⟩,
    ⟨none,.store 42 (.tmp 55) (.tmp 54),none,false⟩])
   (.seq (.reg [⟨some 56,.load 44 (.tmp 1),none,false⟩,
    ⟨some 57,.load 44 (.tmp 3),none,false⟩,
    ⟨some 58,.binOp .eql 44 (.tmp 56) (.tmp 57) 44,none,false⟩,
    ⟨some 59,.move (.tmp 58),none,false⟩,
    ⟨some 60,.fieldAddr 44 (.tmp 1) 1,some (some 59,true),false⟩,
    ⟨some 61,.load 3 (.tmp 60),some (some 59,true),false⟩,
    ⟨some 62,.binOp .eql 3 (.tmp 61) (.const (.int .i64 0)) 3,some (some 59,true),false⟩,
    ⟨some 63,.pick (.tmp 59) (.tmp 62) (.const (.bool false)),none,false⟩,
    ⟨some 64,.move (.tmp 63),none,false⟩,
    ⟨some 65,.fieldAddr 44 (.tmp 1) 4,some (some 64,true),false⟩,
    ⟨some 66,.load 3 (.tmp 65),some (some 64,true),false⟩,
    ⟨some 67,.fieldAddr 44 (.tmp 1) 5,some (some 64,true),false⟩,
    ⟨some 68,.load 42 (.tmp 67),some (some 64,true),false⟩,
    ⟨some 69,.build 87 ⟨[(0,(.tmp 66)),(1,(.tmp 68))]⟩,some (some 64,true),false⟩,
    ⟨some 70,.call ⟨.value (.func 98),⟨[(.tmp 69)]⟩,⟨[87]⟩⟩,some (some 64,true),false⟩,
    ⟨some 71,.pick (.tmp 64) (.tmp 70) (.const (.bool false)),none,false⟩,
    ⟨some 2,.assign (.tmp 71),none,false⟩])
   .ret)))
   (.seq (.weak (.reg [⟨some 73,.binOp .eql 3 (.tmp 14) (.const (.int .i64 2)) 3,none,false⟩,
    ⟨some 72,.assign (.tmp 73),none,false⟩]))
   gU))
def gW:LC:=
 (.cond (.tmp 25)
  (.seq (.reg [⟨some 27,.fieldAddr 44 (.tmp 1) 4,none,false⟩,
   ⟨some 28,.load 3 (.tmp 27),none,false⟩,
   ⟨some 29,.fieldAddr 44 (.tmp 3) 4,none,false⟩,
   ⟨none,.store 3 (.tmp 29) (.tmp 28),none,false⟩])
  (.seq (.reg [⟨some 30,.load 44 (.tmp 1),none,false⟩,
   ⟨some 31,.load 44 (.tmp 3),none,false⟩,
   ⟨some 32,.binOp .eql 44 (.tmp 30) (.tmp 31) 44,none,false⟩,
   ⟨some 33,.move (.tmp 32),none,false⟩,
   ⟨some 34,.fieldAddr 44 (.tmp 1) 1,some (some 33,true),false⟩,
   ⟨some 35,.load 3 (.tmp 34),some (some 33,true),false⟩,
   ⟨some 36,.binOp .geq 3 (.tmp 35) (.const (.int .i64 0)) 3,some (some 33,true),false⟩,
   ⟨some 37,.pick (.tmp 33) (.tmp 36) (.const (.bool false)),none,false⟩,
   ⟨some 38,.move (.tmp 37),none,false⟩,
   ⟨some 39,.fieldAddr 44 (.tmp 1) 4,some (some 38,true),false⟩,
   ⟨some 40,.load 3 (.tmp 39),some (some 38,true),false⟩,
   ⟨some 41,.binOp .geq 3 (.tmp 40) (.const (.int .i64 1)) 3,some (some 38,true),false⟩,
   ⟨some 42,.pick (.tmp 38) (.tmp 41) (.const (.bool false)),none,false⟩,
   ⟨some 43,.move (.tmp 42),none,false⟩,
   ⟨some 44,.fieldAddr 44 (.tmp 1) 4,some (some 43,true),false⟩,
   ⟨some 45,.load 3 (.tmp 44),some (some 43,true),false⟩,
   ⟨some 46,.binOp .leq 3 (.tmp 45) (.const (.int .i64 31)) 3,some (some 43,true),false⟩,
   ⟨some 47,.pick (.tmp 43) (.tmp 46) (.const (.bool false)),none,false⟩,
   ⟨some 2,.assign (.tmp 47),none,false⟩])
  .ret))
  (.seq (.weak (.reg [⟨some 49,.binOp .eql 3 (.tmp 14) (.const (.int .i64 9)) 3,none,false⟩,
   ⟨some 48,.assign (.tmp 49),none,false⟩]))
  gV))
def gX:LC:=
 (.cond (.tmp 15)
  (.seq (.reg [⟨some 17,.load 44 (.tmp 1),none,false⟩,
   ⟨some 18,.load 44 (.tmp 3),none,false⟩,
   ⟨some 19,.binOp .eql 44 (.tmp 17) (.tmp 18) 44,none,false⟩,
   ⟨some 20,.move (.tmp 19),none,false⟩,
   ⟨some 21,.fieldAddr 44 (.tmp 1) 1,some (some 20,true),false⟩,
   ⟨some 22,.load 3 (.tmp 21),some (some 20,true),false⟩,
   ⟨some 23,.binOp .eql 3 (.tmp 22) (.const (.int .i64 0)) 3,some (some 20,true),false⟩,
   ⟨some 24,.pick (.tmp 20) (.tmp 23) (.const (.bool false)),none,false⟩,
   ⟨some 2,.assign (.tmp 24),none,false⟩])
  .ret)
  (.seq (.weak (.reg [⟨some 26,.binOp .eql 3 (.tmp 14) (.const (.int .i64 1)) 3,none,false⟩,
   ⟨some 25,.assign (.tmp 26),none,false⟩]))
  gW))
def mJ:LC:=
 (.seq (.reg [⟨some 2,.assign (.const (.bool false)),none,false⟩])
 .ret)
def qb:LC:=
 (.seq (.reg [⟨some 1,.box 44 (.tmp 0),none,false⟩,
  ⟨some 2,.assign (.const (.bool false)),none,false⟩])
 (.seq (.reg [⟨some 6,.fieldAddr 44 (.tmp 1) 0,none,false⟩,
  ⟨some 7,.load 3 (.tmp 6),none,false⟩,
  ⟨some 8,.fieldAddr 44 (.tmp 1) 1,none,false⟩,
  ⟨some 9,.load 3 (.tmp 8),none,false⟩,
  ⟨some 10,.fieldAddr 44 (.tmp 1) 2,none,false⟩,
  ⟨some 11,.load 9 (.tmp 10),none,false⟩,
  ⟨some 12,.build 44 ⟨[(0,(.tmp 7)),(1,(.tmp 9)),(2,(.tmp 11))]⟩,none,false⟩,
  ⟨some 3,.alloc 44,none,false⟩,
  ⟨none,.store 44 (.tmp 3) (.tmp 12),none,false⟩])
 (.seq (.seq (.reg [⟨some 13,.fieldAddr 44 (.tmp 1) 0,none,false⟩,
  ⟨some 14,.load 3 (.tmp 13),none,false⟩])
 (.block 0 (.seq (.weak (.reg [⟨some 16,.binOp .eql 3 (.tmp 14) (.const (.int .i64 0)) 3,none,false⟩,
  ⟨some 15,.assign (.tmp 16),none,false⟩]))
  gX)))
 mJ)))
theorem zL:aO Tryz.prog 70 140 [.tmp 2] qb:=⟨_,_,Tryz.func70,by kernel_rfl,rfl,Tryz.ntmps70,rfl,by kernel_rfl⟩
end Lp
namespace Lp
open Go Go.Proofs
open Nat (reduceAdd reduceLeDiff reduceMul reduceSub)
open Int (reduceEq reduceLE reduceToNat)
theorem mF (a:fe):(∀ n,(aX a).putCells 4 [.int .i64 n]=aX { a with n:=n })∧(∀ x,(aX a).putCells 3 [.str x]=aX { a with s:=x })∧
  (∀ ck cm cn cs cg ce,(aX a).putCells 5 [.int .i64 ck,.int .i64 cm,.str cn,.str cs,.bool cg,.int .i64 ce]=aX { a with c:=⟨ck,cm,cn,cs,cg,ce⟩ }):=⟨fun _=>rfl,fun _=>rfl,fun _ _ _ _ _ _=>rfl⟩
theorem abd (t:fe):decide (t=⟨t.kind,t.many,t.name,[],0,aM⟩)=(t.s==[] && t.n==0 && t.c==aM):=by
 obtain ⟨k,m,nm,s,n,c⟩:=t
 rw [Bool.eq_iff_iff];simp [and_assoc]
theorem acn (t:fe):decide (t=⟨t.kind,t.many,t.name,[],t.n,aM⟩)=(t.s==[] && t.c==aM):=by
 obtain ⟨k,m,nm,s,n,c⟩:=t
 rw [Bool.eq_iff_iff];simp
theorem ac5 (t:fe):decide (t=⟨t.kind,t.many,t.name,[],t.n,t.c⟩)=(t.s==[]):=by
 obtain ⟨k,m,nm,s,n,c⟩:=t
 rw [Bool.eq_iff_iff];simp
theorem ac6 (t:fe):decide (t=⟨t.kind,t.many,t.name,t.s,0,aM⟩)=(t.n==0 && t.c==aM):=by
 obtain ⟨k,m,nm,s,n,c⟩:=t
 rw [Bool.eq_iff_iff];simp
theorem ac7 (pk:List UInt8→Bool) (t:fe) (k:t.kind=0):b_ pk t=(decide (t=⟨t.kind,t.many,t.name,[],0,aM⟩) && decide (t.many=0)):=by
 rw [abd]
 have b:∀ i:Int,(t.many==i)=decide (t.many=i):=fun _=>rfl
 have c:∀ i:Int,(t.n==i)=decide (t.n=i):=fun _=>rfl
 simp only [b_,k,reduceEq,if_true,if_false,false_or,or_false,or_self,true_or,or_true,b,c]
 ac_rfl
theorem ac8 (pk:List UInt8→Bool) (t:fe) (k:t.kind=1):b_ pk t=(decide (t=⟨t.kind,t.many,t.name,[],t.n,aM⟩) && (decide (0≤t.many) && decide (1≤t.n) && decide (t.n≤31))):=by
 rw [acn]
 have b:∀ i:Int,(t.many==i)=decide (t.many=i):=fun _=>rfl
 have c:∀ i:Int,(t.n==i)=decide (t.n=i):=fun _=>rfl
 simp only [b_,k,reduceEq,if_true,if_false,false_or,or_false,or_self,true_or,or_true,b,c]
 ac_rfl
theorem ac9 (pk:List UInt8→Bool) (t:fe) (k:t.kind=9):b_ pk t=(decide (t=⟨t.kind,t.many,t.name,[],t.n,t.c⟩) && (decide (t.many=0) && nY ⟨t.n,t.c⟩)):=by
 rw [ac5]
 have b:∀ i:Int,(t.many==i)=decide (t.many=i):=fun _=>rfl
 have c:∀ i:Int,(t.n==i)=decide (t.n=i):=fun _=>rfl
 simp only [b_,k,reduceEq,if_true,if_false,false_or,or_false,or_self,true_or,or_true,b,c]
 ac_rfl
theorem ac_ (pk:List UInt8→Bool) (t:fe) (k:t.kind=2):b_ pk t=(decide (t=⟨t.kind,t.many,t.name,[],t.n,aM⟩) && (decide (0≤t.many) && (decide (t.n=0) || decide (t.n=1)))):=by
 rw [acn]
 have b:∀ i:Int,(t.many==i)=decide (t.many=i):=fun _=>rfl
 have c:∀ i:Int,(t.n==i)=decide (t.n=i):=fun _=>rfl
 simp only [b_,k,reduceEq,if_true,if_false,false_or,or_false,or_self,true_or,or_true,b,c]
 ac_rfl
theorem ada (pk:List UInt8→Bool) (t:fe) (k:t.kind=4):b_ pk t=(decide (t=⟨t.kind,t.many,t.name,[],0,aM⟩) && decide (0≤t.many)):=by
 rw [abd]
 have b:∀ i:Int,(t.many==i)=decide (t.many=i):=fun _=>rfl
 have c:∀ i:Int,(t.n==i)=decide (t.n=i):=fun _=>rfl
 simp only [b_,k,reduceEq,if_true,if_false,false_or,or_false,or_self,true_or,or_true,b,c]
 ac_rfl
theorem abe (pk:List UInt8→Bool) (t:fe) (k:t.kind=3∨t.kind=5∨t.kind=6):b_ pk t=(decide (t=⟨t.kind,t.many,t.name,[],0,aM⟩) && decide (t.many=1)):=by
 rw [abd]
 have b:∀ i:Int,(t.many==i)=decide (t.many=i):=fun _=>rfl
 have c:∀ i:Int,(t.n==i)=decide (t.n=i):=fun _=>rfl
 rcases k with k | k | k <;> simp only [b_,k,reduceEq,if_true,if_false,false_or,or_false,or_self,true_or,or_true,b,c] <;> ac_rfl
theorem aco (pk:List UInt8→Bool) (t:fe) (k:t.kind=7∨t.kind=8):b_ pk t=(decide (t=⟨t.kind,t.many,t.name,t.s,0,aM⟩) && (decide (t.many=1) && pk t.s)):=by
 rw [ac6]
 have b:∀ i:Int,(t.many==i)=decide (t.many=i):=fun _=>rfl
 have c:∀ i:Int,(t.n==i)=decide (t.n=i):=fun _=>rfl
 rcases k with k | k <;> simp only [b_,k,reduceEq,if_true,if_false,false_or,or_false,or_self,true_or,or_true,b,c] <;> ac_rfl
theorem eX (k m n ck cm ce k' m' n' ck' cm' ce':Int) (nm s cn cs vV s' cn' cs':List UInt8) (cg cg':Bool):H7 Tryz.prog 44 [.int .i64 k,.int .i64 m,.str nm,.str s,.int .i64 n,.int .i64 ck,.int .i64 cm,.str cn,.str cs,.bool cg,.int .i64 ce] [.int .i64 k',.int .i64 m',.str vV,.str s',.int .i64 n',.int .i64 ck',.int .i64 cm',.str cn',.str cs',.bool cg',.int .i64 ce']=True:=eq_true (ack ⟨k,m,nm,s,n,⟨ck,cm,cn,cs,cg,ce⟩⟩ ⟨k',m',vV,s',n',⟨ck',cm',cn',cs',cg',ce'⟩⟩)
theorem iK (k m n ck cm ce k' m' n' ck' cm' ce':Int) (nm s cn cs vV s' cn' cs':List UInt8) (cg cg':Bool):BQ [.int .i64 k,.int .i64 m,.str nm,.str s,.int .i64 n,.int .i64 ck,.int .i64 cm,.str cn,.str cs,.bool cg,.int .i64 ce] [.int .i64 k',.int .i64 m',.str vV,.str s',.int .i64 n',.int .i64 ck',.int .i64 cm',.str cn',.str cs',.bool cg',.int .i64 ce']=some (decide ((⟨k,m,nm,s,n,⟨ck,cm,cn,cs,cg,ce⟩⟩:fe)=⟨k',m',vV,s',n',⟨ck',cm',cn',cs',cg',ce'⟩⟩)):=acV ⟨k,m,nm,s,n,⟨ck,cm,cn,cs,cg,ce⟩⟩ ⟨k',m',vV,s',n',⟨ck',cm',cn',cs',cg',ce'⟩⟩
theorem L8 (t:fe) (hs:t.s.length≤1000000000) (hc:si t.c):ah Tryz.prog 70 [aX t] [] (.bool (b_ bI t)) []:=by
 refine zL.bg (T:=aQ Tryz.prog [(98,sj),(72,fP)]) 0 hD (aj (af LH (af Bc ai))) aV (by decide) fun Q hQ=>?_
 obtain ⟨kd,m,nm,s,n,c⟩:=t
 simp only at hs hc
 simp(maxSteps:=400000)only[↓ax,ay,BEq.rfl,reduceIte,reduceCtorEq,Nat.reduceLT,reduceAdd,reduceSub,reduceMul,Nat.reduceBEq,reduceLeDiff,reduceToNat,reduceLE,hQ,qb,qW,gq,gP,mF,eX,iK,bG,dF,reduceEq]
 refine aR _ (Weak.refl _ _) ?_
 by_cases k0:kd=0
 · subst k0
   have hp:b_ bI ⟨0,m,nm,s,n,c⟩=(decide ((⟨0,m,nm,s,n,c⟩:fe)=⟨0,m,nm,[],0,aM⟩) && decide (m=0)):=ac7 bI ⟨0,m,nm,s,n,c⟩ rfl
   cases hb:decide ((⟨0,m,nm,s,n,c⟩:fe)=⟨0,m,nm,[],0,aM⟩) with
   | false=>
    rw [hb,Bool.false_and] at hp
    simp(maxSteps:=400000)only[↓ax,ay,BEq.rfl,reduceIte,reduceCtorEq,Nat.reduceLT,reduceAdd,reduceSub,reduceMul,Nat.reduceBEq,reduceLeDiff,reduceToNat,reduceLE,hQ,gX,hb,hp,qW,gq,gP,mF,eX,iK,bG,dF,reduceEq]
    repeat' (first | (omega) | exact hs | exact hc | intro _ | refine ⟨?_,?_⟩)
   | true=>
    rw [hb,Bool.true_and] at hp
    simp(maxSteps:=400000)only[↓ax,ay,BEq.rfl,reduceIte,reduceCtorEq,Nat.reduceLT,reduceAdd,reduceSub,reduceMul,Nat.reduceBEq,reduceLeDiff,reduceToNat,reduceLE,hQ,gX,hb,hp,qW,gq,gP,mF,eX,iK,bG,dF,reduceEq]
    repeat' (first | (omega) | exact hs | exact hc | ((simp [*];done)) | intro _ | refine ⟨?_,?_⟩)
 have n0:=eq_false k0
 simp(maxSteps:=400000)only[↓ax,ay,BEq.rfl,reduceIte,reduceCtorEq,Nat.reduceLT,reduceAdd,reduceSub,reduceMul,Nat.reduceBEq,reduceLeDiff,reduceToNat,reduceLE,hQ,gX,n0,qW,gq,gP,mF,eX,iK,bG,dF,reduceEq]
 refine aR _ (Weak.refl _ _) ?_
 by_cases k1:kd=1
 · subst k1
   have hp:b_ bI ⟨1,m,nm,s,n,c⟩=(decide ((⟨1,m,nm,s,n,c⟩:fe)=⟨1,m,nm,[],n,aM⟩) && (decide (0≤m) && decide (1≤n) && decide (n≤31))):=ac8 bI ⟨1,m,nm,s,n,c⟩ rfl
   cases hb:decide ((⟨1,m,nm,s,n,c⟩:fe)=⟨1,m,nm,[],n,aM⟩) with
   | false=>
    rw [hb,Bool.false_and] at hp
    simp(maxSteps:=400000)only[↓ax,ay,BEq.rfl,reduceIte,reduceCtorEq,Nat.reduceLT,reduceAdd,reduceSub,reduceMul,Nat.reduceBEq,reduceLeDiff,reduceToNat,reduceLE,hQ,gW,hb,hp,qW,gq,gP,mF,eX,iK,bG,dF,reduceEq]
    repeat' (first | (omega) | exact hs | exact hc | intro _ | refine ⟨?_,?_⟩)
   | true=>
    rw [hb,Bool.true_and] at hp
    simp(maxSteps:=400000)only[↓ax,ay,BEq.rfl,reduceIte,reduceCtorEq,Nat.reduceLT,reduceAdd,reduceSub,reduceMul,Nat.reduceBEq,reduceLeDiff,reduceToNat,reduceLE,hQ,gW,hb,hp,qW,gq,gP,mF,eX,iK,bG,dF,reduceEq]
    repeat' (first | (omega) | exact hs | exact hc | ((simp [*];done)) | intro _ | refine ⟨?_,?_⟩)
 have n1:=eq_false k1
 simp(maxSteps:=400000)only[↓ax,ay,BEq.rfl,reduceIte,reduceCtorEq,Nat.reduceLT,reduceAdd,reduceSub,reduceMul,Nat.reduceBEq,reduceLeDiff,reduceToNat,reduceLE,hQ,gW,n1,qW,gq,gP,mF,eX,iK,bG,dF,reduceEq]
 refine aR _ (Weak.refl _ _) ?_
 by_cases k9:kd=9
 · subst k9
   have hp:b_ bI ⟨9,m,nm,s,n,c⟩=(decide ((⟨9,m,nm,s,n,c⟩:fe)=⟨9,m,nm,[],n,c⟩) && (decide (m=0) && nY ⟨n,c⟩)):=ac9 bI ⟨9,m,nm,s,n,c⟩ rfl
   cases hb:decide ((⟨9,m,nm,s,n,c⟩:fe)=⟨9,m,nm,[],n,c⟩) with
   | false=>
    rw [hb,Bool.false_and] at hp
    simp(maxSteps:=400000)only[↓ax,ay,BEq.rfl,reduceIte,reduceCtorEq,Nat.reduceLT,reduceAdd,reduceSub,reduceMul,Nat.reduceBEq,reduceLeDiff,reduceToNat,reduceLE,hQ,gV,hb,hp,↓sj,qW,gq,gP,mF,eX,iK,bG,dF,reduceEq]
    repeat' (first | (omega) | exact hs | exact hc | intro _ | refine ⟨?_,?_⟩)
   | true=>
    rw [hb,Bool.true_and] at hp
    simp(maxSteps:=400000)only[↓ax,ay,BEq.rfl,reduceIte,reduceCtorEq,Nat.reduceLT,reduceAdd,reduceSub,reduceMul,Nat.reduceBEq,reduceLeDiff,reduceToNat,reduceLE,hQ,gV,hb,hp,↓sj,qW,gq,gP,mF,eX,iK,bG,dF,reduceEq]
    repeat' (first | (omega) | exact hs | exact hc | ((simp [*];done)) | intro _ | refine ⟨?_,?_⟩)
 have n9:=eq_false k9
 simp(maxSteps:=400000)only[↓ax,ay,BEq.rfl,reduceIte,reduceCtorEq,Nat.reduceLT,reduceAdd,reduceSub,reduceMul,Nat.reduceBEq,reduceLeDiff,reduceToNat,reduceLE,hQ,gV,n9,qW,gq,gP,mF,eX,iK,bG,dF,reduceEq]
 refine aR _ (Weak.refl _ _) ?_
 by_cases k2:kd=2
 · subst k2
   have hp:b_ bI ⟨2,m,nm,s,n,c⟩=(decide ((⟨2,m,nm,s,n,c⟩:fe)=⟨2,m,nm,[],n,aM⟩) && (decide (0≤m) && (decide (n=0) || decide (n=1)))):=ac_ bI ⟨2,m,nm,s,n,c⟩ rfl
   cases hb:decide ((⟨2,m,nm,s,n,c⟩:fe)=⟨2,m,nm,[],n,aM⟩) with
   | false=>
    rw [hb,Bool.false_and] at hp
    simp(maxSteps:=400000)only[↓ax,ay,BEq.rfl,reduceIte,reduceCtorEq,Nat.reduceLT,reduceAdd,reduceSub,reduceMul,Nat.reduceBEq,reduceLeDiff,reduceToNat,reduceLE,hQ,gU,hb,hp,qW,gq,gP,mF,eX,iK,bG,dF,reduceEq]
    repeat' (first | (omega) | exact hs | exact hc | intro _ | refine ⟨?_,?_⟩)
   | true=>
    rw [hb,Bool.true_and] at hp
    simp(maxSteps:=400000)only[↓ax,ay,BEq.rfl,reduceIte,reduceCtorEq,Nat.reduceLT,reduceAdd,reduceSub,reduceMul,Nat.reduceBEq,reduceLeDiff,reduceToNat,reduceLE,hQ,gU,hb,hp,qW,gq,gP,mF,eX,iK,bG,dF,reduceEq]
    repeat' (first | (omega) | exact hs | exact hc | ((simp [*];done)) | intro _ | refine ⟨?_,?_⟩)
 have n2:=eq_false k2
 simp(maxSteps:=400000)only[↓ax,ay,BEq.rfl,reduceIte,reduceCtorEq,Nat.reduceLT,reduceAdd,reduceSub,reduceMul,Nat.reduceBEq,reduceLeDiff,reduceToNat,reduceLE,hQ,gU,n2,qW,gq,gP,mF,eX,iK,bG,dF,reduceEq]
 refine aR _ (Weak.refl _ _) ?_
 by_cases k4:kd=4
 · subst k4
   have hp:b_ bI ⟨4,m,nm,s,n,c⟩=(decide ((⟨4,m,nm,s,n,c⟩:fe)=⟨4,m,nm,[],0,aM⟩) && decide (0≤m)):=ada bI ⟨4,m,nm,s,n,c⟩ rfl
   cases hb:decide ((⟨4,m,nm,s,n,c⟩:fe)=⟨4,m,nm,[],0,aM⟩) with
   | false=>
    rw [hb,Bool.false_and] at hp
    simp(maxSteps:=400000)only[↓ax,ay,BEq.rfl,reduceIte,reduceCtorEq,Nat.reduceLT,reduceAdd,reduceSub,reduceMul,Nat.reduceBEq,reduceLeDiff,reduceToNat,reduceLE,hQ,gT,hb,hp,qW,gq,gP,mF,eX,iK,bG,dF,reduceEq]
    repeat' (first | (omega) | exact hs | exact hc | intro _ | refine ⟨?_,?_⟩)
   | true=>
    rw [hb,Bool.true_and] at hp
    simp(maxSteps:=400000)only[↓ax,ay,BEq.rfl,reduceIte,reduceCtorEq,Nat.reduceLT,reduceAdd,reduceSub,reduceMul,Nat.reduceBEq,reduceLeDiff,reduceToNat,reduceLE,hQ,gT,hb,hp,qW,gq,gP,mF,eX,iK,bG,dF,reduceEq]
    repeat' (first | (omega) | exact hs | exact hc | ((simp [*];done)) | intro _ | refine ⟨?_,?_⟩)
 have n4:=eq_false k4
 simp(maxSteps:=400000)only[↓ax,ay,BEq.rfl,reduceIte,reduceCtorEq,Nat.reduceLT,reduceAdd,reduceSub,reduceMul,Nat.reduceBEq,reduceLeDiff,reduceToNat,reduceLE,hQ,gT,n4,qW,gq,gP,mF,eX,iK,bG,dF,reduceEq]
 refine aR _ (Weak.refl _ _) ?_
 by_cases k3:kd=3
 · subst k3
   have hp:b_ bI ⟨3,m,nm,s,n,c⟩=(decide ((⟨3,m,nm,s,n,c⟩:fe)=⟨3,m,nm,[],0,aM⟩) && decide (m=1)):=abe bI ⟨3,m,nm,s,n,c⟩ (.inl rfl)
   cases hb:decide ((⟨3,m,nm,s,n,c⟩:fe)=⟨3,m,nm,[],0,aM⟩) with
   | false=>
    rw [hb,Bool.false_and] at hp
    simp(maxSteps:=400000)only[↓ax,ay,BEq.rfl,reduceIte,reduceCtorEq,Nat.reduceLT,reduceAdd,reduceSub,reduceMul,Nat.reduceBEq,reduceLeDiff,reduceToNat,reduceLE,hQ,bX,bW,hb,hp,qW,gq,gP,mF,eX,iK,bG,dF,reduceEq]
    repeat' (first | (omega) | exact hs | exact hc | intro _ | refine ⟨?_,?_⟩)
   | true=>
    rw [hb,Bool.true_and] at hp
    simp(maxSteps:=400000)only[↓ax,ay,BEq.rfl,reduceIte,reduceCtorEq,Nat.reduceLT,reduceAdd,reduceSub,reduceMul,Nat.reduceBEq,reduceLeDiff,reduceToNat,reduceLE,hQ,bX,bW,hb,hp,qW,gq,gP,mF,eX,iK,bG,dF,reduceEq]
    repeat' (first | (omega) | exact hs | exact hc | ((simp [*];done)) | intro _ | refine ⟨?_,?_⟩)
 have n3:=eq_false k3
 by_cases k5:kd=5
 · subst k5
   have hp:b_ bI ⟨5,m,nm,s,n,c⟩=(decide ((⟨5,m,nm,s,n,c⟩:fe)=⟨5,m,nm,[],0,aM⟩) && decide (m=1)):=abe bI ⟨5,m,nm,s,n,c⟩ (.inr (.inl rfl))
   cases hb:decide ((⟨5,m,nm,s,n,c⟩:fe)=⟨5,m,nm,[],0,aM⟩) with
   | false=>
    rw [hb,Bool.false_and] at hp
    simp(maxSteps:=400000)only[↓ax,ay,BEq.rfl,reduceIte,reduceCtorEq,Nat.reduceLT,reduceAdd,reduceSub,reduceMul,Nat.reduceBEq,reduceLeDiff,reduceToNat,reduceLE,hQ,bX,bW,hb,hp,qW,gq,gP,mF,eX,iK,bG,dF,reduceEq]
    repeat' (first | (omega) | exact hs | exact hc | intro _ | refine ⟨?_,?_⟩)
   | true=>
    rw [hb,Bool.true_and] at hp
    simp(maxSteps:=400000)only[↓ax,ay,BEq.rfl,reduceIte,reduceCtorEq,Nat.reduceLT,reduceAdd,reduceSub,reduceMul,Nat.reduceBEq,reduceLeDiff,reduceToNat,reduceLE,hQ,bX,bW,hb,hp,qW,gq,gP,mF,eX,iK,bG,dF,reduceEq]
    repeat' (first | (omega) | exact hs | exact hc | ((simp [*];done)) | intro _ | refine ⟨?_,?_⟩)
 have n5:=eq_false k5
 by_cases k6:kd=6
 · subst k6
   have hp:b_ bI ⟨6,m,nm,s,n,c⟩=(decide ((⟨6,m,nm,s,n,c⟩:fe)=⟨6,m,nm,[],0,aM⟩) && decide (m=1)):=abe bI ⟨6,m,nm,s,n,c⟩ (.inr (.inr rfl))
   cases hb:decide ((⟨6,m,nm,s,n,c⟩:fe)=⟨6,m,nm,[],0,aM⟩) with
   | false=>
    rw [hb,Bool.false_and] at hp
    simp(maxSteps:=400000)only[↓ax,ay,BEq.rfl,reduceIte,reduceCtorEq,Nat.reduceLT,reduceAdd,reduceSub,reduceMul,Nat.reduceBEq,reduceLeDiff,reduceToNat,reduceLE,hQ,bX,bW,hb,hp,qW,gq,gP,mF,eX,iK,bG,dF,reduceEq]
    repeat' (first | (omega) | exact hs | exact hc | intro _ | refine ⟨?_,?_⟩)
   | true=>
    rw [hb,Bool.true_and] at hp
    simp(maxSteps:=400000)only[↓ax,ay,BEq.rfl,reduceIte,reduceCtorEq,Nat.reduceLT,reduceAdd,reduceSub,reduceMul,Nat.reduceBEq,reduceLeDiff,reduceToNat,reduceLE,hQ,bX,bW,hb,hp,qW,gq,gP,mF,eX,iK,bG,dF,reduceEq]
    repeat' (first | (omega) | exact hs | exact hc | ((simp [*];done)) | intro _ | refine ⟨?_,?_⟩)
 have n6:=eq_false k6
 simp(maxSteps:=400000)only[↓ax,ay,BEq.rfl,reduceIte,reduceCtorEq,Nat.reduceLT,reduceAdd,reduceSub,reduceMul,Nat.reduceBEq,reduceLeDiff,reduceToNat,reduceLE,hQ,bX,bW,n3,n5,n6,qW,gq,gP,mF,eX,iK,bG,dF,reduceEq]
 refine aR _ (Weak.refl _ _) ?_
 by_cases k7:kd=7
 · subst k7
   have hp:b_ bI ⟨7,m,nm,s,n,c⟩=(decide ((⟨7,m,nm,s,n,c⟩:fe)=⟨7,m,nm,s,0,aM⟩) && (decide (m=1) && bI s)):=aco bI ⟨7,m,nm,s,n,c⟩ (.inl rfl)
   cases hb:decide ((⟨7,m,nm,s,n,c⟩:fe)=⟨7,m,nm,s,0,aM⟩) with
   | false=>
    rw [hb,Bool.false_and] at hp
    simp(maxSteps:=400000)only[↓ax,ay,BEq.rfl,reduceIte,reduceCtorEq,Nat.reduceLT,reduceAdd,reduceSub,reduceMul,Nat.reduceBEq,reduceLeDiff,reduceToNat,reduceLE,hQ,dW,dV,hb,hp,↓fP,fV,qW,gq,gP,mF,eX,iK,bG,dF,reduceEq]
    repeat' (first | (omega) | exact hs | exact hc | intro _ | refine ⟨?_,?_⟩)
   | true=>
    rw [hb,Bool.true_and] at hp
    simp(maxSteps:=400000)only[↓ax,ay,BEq.rfl,reduceIte,reduceCtorEq,Nat.reduceLT,reduceAdd,reduceSub,reduceMul,Nat.reduceBEq,reduceLeDiff,reduceToNat,reduceLE,hQ,dW,dV,hb,hp,↓fP,fV,qW,gq,gP,mF,eX,iK,bG,dF,reduceEq]
    repeat' (first | (omega) | exact hs | exact hc | ((simp [*];done)) | intro _ | refine ⟨?_,?_⟩)
 have n7:=eq_false k7
 by_cases k8:kd=8
 · subst k8
   have hp:b_ bI ⟨8,m,nm,s,n,c⟩=(decide ((⟨8,m,nm,s,n,c⟩:fe)=⟨8,m,nm,s,0,aM⟩) && (decide (m=1) && bI s)):=aco bI ⟨8,m,nm,s,n,c⟩ (.inr rfl)
   cases hb:decide ((⟨8,m,nm,s,n,c⟩:fe)=⟨8,m,nm,s,0,aM⟩) with
   | false=>
    rw [hb,Bool.false_and] at hp
    simp(maxSteps:=400000)only[↓ax,ay,BEq.rfl,reduceIte,reduceCtorEq,Nat.reduceLT,reduceAdd,reduceSub,reduceMul,Nat.reduceBEq,reduceLeDiff,reduceToNat,reduceLE,hQ,dW,dV,hb,hp,↓fP,fV,qW,gq,gP,mF,eX,iK,bG,dF,reduceEq]
    repeat' (first | (omega) | exact hs | exact hc | intro _ | refine ⟨?_,?_⟩)
   | true=>
    rw [hb,Bool.true_and] at hp
    simp(maxSteps:=400000)only[↓ax,ay,BEq.rfl,reduceIte,reduceCtorEq,Nat.reduceLT,reduceAdd,reduceSub,reduceMul,Nat.reduceBEq,reduceLeDiff,reduceToNat,reduceLE,hQ,dW,dV,hb,hp,↓fP,fV,qW,gq,gP,mF,eX,iK,bG,dF,reduceEq]
    repeat' (first | (omega) | exact hs | exact hc | ((simp [*];done)) | intro _ | refine ⟨?_,?_⟩)
 have n8:=eq_false k8
 simp(maxSteps:=400000)only[↓ax,ay,BEq.rfl,reduceIte,reduceCtorEq,Nat.reduceLT,reduceAdd,reduceSub,reduceMul,Nat.reduceBEq,reduceLeDiff,reduceToNat,reduceLE,hQ,dW,dV,n7,n8,qW,gq,gP,mF,eX,iK,bG,dF,reduceEq]
 have hp:b_ bI ⟨kd,m,nm,s,n,c⟩=false:=by simp [b_,k0,k1,k9,k2,k4,k3,k5,k6,k7,k8]
 simp(maxSteps:=400000)only[↓ax,ay,BEq.rfl,reduceIte,reduceCtorEq,Nat.reduceLT,reduceAdd,reduceSub,reduceMul,Nat.reduceBEq,reduceLeDiff,reduceToNat,reduceLE,hQ,mJ,hp]
def fU:dN:=fun args objs K=>match args with
 | [a0]=>gZ aX a0 (HK.mk:HK fun t=>(t.s.length≤1000000000)∧(si t.c)∧K (.bool (b_ bI t)) objs 0)
 | _=>False
theorem I7:aF Tryz.prog 70 (fU):=by
 intro args objs K h
 unfold fU at h
 split at h
 · rename_i a0
   obtain ⟨t,rfl,h1,h2,hk⟩:=h
   exact ⟨_,_,_,.pure _ rfl (L8 t h1 h2),hk⟩
 · exact h.elim
end Lp
namespace Lp
open Go Go.Proofs
open Nat (reduceAdd reduceLeDiff reduceMul reduceSub)
open Int (reduceEq reduceLE reduceToNat toNat_natCast)
structure um (t:bf):Prop where
 len:t.length≤1000000
 txt:∀ n ∈ t,n.s.length≤1000000000∧n.name.length≤1000000000∧si n.c
theorem TA (d n:Nat) (O:List Obj) (t:TypeId) (sz:Nat) (l:bf) (ver:Nat):fu d n O ⟨t,sz,l.map aX,true,ver⟩=⟨t,sz,l.map aX,true,ver⟩:=by
 have:(l.map aX).map (PV.bC (eP d n O))=l.map aX:=by
  rw [List.map_map]
  exact List.map_congr_left fun x _=>rfl
 simp only [fu,this]
theorem RF (x:fe) (prev:Option (List UInt8)) (p:bf) (ps:List bf):l_ x prev (p::ps)=(Cb x p && (x.kind !=2 || (match prev with | none=>true | some a=>Op.bytesLess a (Y.nameOf p))) && l_ x (some (Y.nameOf p)) ps):=by cases prev <;> rfl
theorem L9 (t:bf) (at':Nat) (n:fe) (hs:um t) (ho:Y.One t) (hat:t[at']?=some n) :
  ah Tryz.prog 71 [aH t,.int .i64 at'] [] (.bool (zJ t at')) []:=by
 obtain ⟨hl,htx⟩:=hs
 have Y2:=(List.getElem?_eq_some_iff.1 hat).1
 obtain ⟨ps,c,hm,hmL,hps,hsk,hfl,hone,_,_⟩:=Y.uh ho hat
 have hpl:=Y.bP _ _ _ hps
 have hres:zJ t at'=l_ n none ps:=by
  rw [Vs]
  have hd:=List.drop_eq_getElem_cons Y2
  rw [List.getElem?_eq_getElem Y2] at hat
  cases hat
  simp only [zJ,hd,hps]
 rw [hres]
 refine zB.bg (T:=aQ Tryz.prog [(46,d9),(45,eO)]) 0 hD (aj (af rU (af mg ai))) aV (by decide) fun Q hQ=>?_
 (conv=>arg 4;cbv);simp(maxSteps:=400000)only[↓ax,ay,BEq.rfl,reduceIte,reduceCtorEq,Nat.reduceLT,reduceAdd,reduceSub,reduceMul,Nat.reduceBEq,reduceLeDiff,reduceToNat,reduceLE,hQ]
 refine ⟨⟨by omega,by omega⟩,?_⟩
 refine aA (fun m S=>∃ (i:Nat) (rest:List bf) (prev:Option (List UInt8)) (last:List UInt8),m=rest.length∧rest.length≤ps.length∧Y.parts rest.length (t.drop i)=some rest∧i≤t.length∧l_ n prev rest=l_ n none ps∧
  ((prev=none∧rest.length=ps.length)∨(prev=some last∧rest.length<ps.length))∧
  S=⟨dh 74 [(0,aH t),(1,.int .i64 at'),(5,.int .i64 i),(6,.str last),(7,.int .i64 ((ps.length:Int)-rest.length))],[]⟩) ps.length (hz:=Nat.zero_le _) ⟨at'+1,ps,none,[],rfl,Nat.le_refl _,by rw [hpl];exact hps,by omega,rfl,.inl ⟨rfl,rfl⟩,?_⟩ ?_
 · simp only [bJ,keepR,reduceAdd,kU,Nat.reduceBEq,List.map_nil]
   simp only [Int.sub_self]
   rfl
 rintro m S ⟨i,rest,prev,last,rfl,hrl,hrp,hit,hrb,aat,rfl⟩
 have hmn:n.many=(ps.length:Int):=by omega
 have z0:(0≤(at':Int))=True:=eq_true (by omega)
 have zi:(0≤(i:Int))=True:=eq_true (by omega)
 cases rest with
 | nil=>
  have hlt:((ps.length:Int)-((0:Nat):Int)<(ps.length:Int))=False:=eq_false (by omega)
  have hr:l_ n none ps=true:=by rw [← hrb];rfl
  simp(maxSteps:=400000)only[↓ax,ay,BEq.rfl,reduceIte,reduceCtorEq,Nat.reduceLT,reduceAdd,reduceSub,reduceMul,Nat.reduceBEq,reduceLeDiff,reduceToNat,reduceLE,hQ,hat,hmn,z0,List.length_nil,hlt,hr]
 | cons p qs=>
  obtain ⟨pc,Zy,h1,h2,h3⟩:=Y.dP (k:=qs.length) hrp
  simp only [List.cons.injEq] at h2
  obtain ⟨hp,rfl⟩:=h2
  have hpc:=Y.dG _ _ _ h1
  simp only [List.length_drop] at hpc
  have hil:i<t.length:=by omega
  have hgi:=List.getElem?_eq_getElem hil
  have hdi:=List.drop_eq_getElem_cons hil
  have Iw:=htx _ (List.getElem_mem hil)
  generalize t[i]=pn at hgi hdi Iw
  obtain ⟨q,hq⟩:∃ q,pc=q+1:=⟨pc-1,by omega⟩
  have hname:Y.nameOf p=pn.name:=by rw [hp,hdi,hq];rfl
  have hkind:Y.kindOf p=pn.kind:=by rw [hp,hdi,hq];rfl
  have hnx:p_ t i=(i+pc:Nat):=wD (Y.lW _ _ _ _ h1 (by omega))
  simp only [List.length_cons] at hrl aat
  have h3':Y.parts qs.length (t.drop (i+pc))=some qs:=by rw [← List.drop_drop];exact h3
  have qR:((ps.length:Int)-((qs.length+1:Nat):Int)<(ps.length:Int))=True:=eq_true (by omega)
  have hlt1:(-9223372036854775808≤(ps.length:Int)-((qs.length+1:Nat):Int)+1∧(ps.length:Int)-((qs.length+1:Nat):Int)+1≤9223372036854775807)=True:=eq_true ⟨by omega,by omega⟩
  have e:(ps.length:Int)-((qs.length+1:Nat):Int)+1=(ps.length:Int)-qs.length:=by omega
  rw [RF,Cb,hname,hkind] at hrb
  have step:l_ n (some pn.name) qs=l_ n none ps→∃ m',m'<qs.length+1∧∃ (EQ:Nat) (rest:List bf) (prev:Option (List UInt8)) (last:List UInt8),m'=rest.length∧rest.length≤ps.length∧Y.parts rest.length (t.drop EQ)=some rest∧EQ≤t.length∧l_ n prev rest=l_ n none ps∧
      ((prev=none∧rest.length=ps.length)∨(prev=some last∧rest.length<ps.length))∧
      (⟨dh 74 [(0,aH t),(1,.int .i64 at'),(5,.int .i64 (i+pc:Nat)),(6,.str pn.name),(7,.int .i64 ((ps.length:Int)-((qs.length+1:Nat):Int)+1))],[]⟩:St)=⟨dh 74 [(0,aH t),(1,.int .i64 at'),(5,.int .i64 EQ),(6,.str last),(7,.int .i64 ((ps.length:Int)-rest.length))],[]⟩:=fun hx=>
   ⟨qs.length,by omega,i+pc,qs,some pn.name,pn.name,rfl,by omega,h3',by omega,hx,.inr ⟨rfl,by omega⟩,by rw [e]⟩
  by_cases hb:(pn.kind=9)=(n.kind=1)
  rotate_left 1
  ·
   have hr:l_ n none ps=false:=by
    rw [← hrb]
    have:(pn.kind==9)≠(n.kind==1):=fun h=>hb (by rw [Bool.eq_iff_iff,beq_iff_eq,beq_iff_eq] at h;exact propext h)
    simp [this]
   by_cases k9:pn.kind=9
   · have k1:(n.kind=1)=False:=eq_false fun k1=>hb (by simp [k9,k1])
     have k9':=eq_true k9
     simp(maxSteps:=400000)only[↓ax,ay,BEq.rfl,reduceIte,reduceCtorEq,Nat.reduceLT,reduceAdd,reduceSub,reduceMul,Nat.reduceBEq,reduceLeDiff,reduceToNat,reduceLE,hQ,hat,hmn,z0,zi,hgi,qR,k9,k1,hr,qW,gq,gP,uj,bG,dF,reduceEq]
   · have k1:n.kind=1:=Decidable.of_not_not fun k1=>hb (by simp [k9,k1])
     have k9':=eq_false k9
     simp(maxSteps:=400000)only[↓ax,ay,BEq.rfl,reduceIte,reduceCtorEq,Nat.reduceLT,reduceAdd,reduceSub,reduceMul,Nat.reduceBEq,reduceLeDiff,reduceToNat,reduceLE,hQ,hat,hmn,z0,zi,hgi,qR,k9',k1,hr,qW,gq,gP,uj,bG,dF,reduceEq]
  have hbb:(pn.kind==9)=(n.kind==1):=by
   rw [Bool.eq_iff_iff];simpa using hb
  rw [hbb] at hrb
  by_cases k2:n.kind=2
  · have k9:(pn.kind=9)=False:=by rw [hb,k2];simp
    have hk1:¬ n.kind=1:=by omega
    simp only [k2,BEq.rfl,bne_self_eq_false,Bool.true_or,Bool.false_or,Bool.true_and] at hrb
    cases hu:utf pn.name with
    | false=>
     have hr:l_ n none ps=false:=by rw [← hrb,hu];simp
     simp(maxSteps:=400000)only[↓ax,ay,BEq.rfl,reduceIte,reduceCtorEq,Nat.reduceLT,reduceAdd,reduceSub,reduceMul,Nat.reduceBEq,reduceLeDiff,reduceToNat,reduceLE,hQ,hat,hmn,z0,zi,hgi,qR,k9,k2,hu,↓d9,hr,qW,gq,gP,uj,bG,dF,reduceEq]
     repeat' (first | (omega) | intro _ | refine ⟨?_,?_⟩)
    | true=>
     rw [hu] at hrb
     rcases aat with ⟨rfl,hq0⟩ | ⟨rfl,hq0⟩
     · have kz:((0:Int)<(ps.length:Int)-((qs.length+1:Nat):Int))=False:=eq_false (by omega)
       have hst:=step (by simpa using hrb)
       simp(maxSteps:=400000)only[↓ax,ay,BEq.rfl,reduceIte,reduceCtorEq,Nat.reduceLT,reduceAdd,reduceSub,reduceMul,Nat.reduceBEq,reduceLeDiff,reduceToNat,reduceLE,hQ,hat,hmn,z0,zi,hgi,qR,hlt1,k9,k2,hu,↓d9,kz,↓eO,hnx,toNat_natCast,qW,gq,gP,uj,bG,dF,reduceEq]
       repeat' (first | exact hst | (omega) | intro _ | refine ⟨?_,?_⟩)
     · have kz:((0:Int)<(ps.length:Int)-((qs.length+1:Nat):Int))=True:=eq_true (by omega)
       simp only [Bool.true_and] at hrb
       cases hbl:Op.bytesLess last pn.name with
       | true=>
        have hne:(pn.name=last)=False:=eq_false fun h=>by rw [h,dI] at hbl;cases hbl
        have XZ:=kH _ _ hbl
        have hst:=step (by rw [← hrb,hbl];simp)
        simp(maxSteps:=400000)only[↓ax,ay,BEq.rfl,reduceIte,reduceCtorEq,Nat.reduceLT,reduceAdd,reduceSub,reduceMul,Nat.reduceBEq,reduceLeDiff,reduceToNat,reduceLE,hQ,hat,hmn,z0,zi,hgi,qR,hlt1,k9,k2,hu,↓d9,kz,hne,XZ,↓eO,hnx,toNat_natCast,qW,gq,gP,uj,bG,dF,reduceEq]
        repeat' (first | exact hst | (omega) | intro _ | refine ⟨?_,?_⟩)
       | false=>
        have hr:l_ n none ps=false:=by rw [← hrb,hbl];simp
        by_cases he:pn.name=last
        · have he':=eq_true he
          have XZ:Op.bytesLess pn.name last=false:=by rw [he,dI]
          simp(maxSteps:=400000)only[↓ax,ay,BEq.rfl,reduceIte,reduceCtorEq,Nat.reduceLT,reduceAdd,reduceSub,reduceMul,Nat.reduceBEq,reduceLeDiff,reduceToNat,reduceLE,hQ,hat,hmn,z0,zi,hgi,qR,k9,k2,hu,↓d9,kz,he',XZ,hr,qW,gq,gP,uj,bG,dF,reduceEq]
          repeat' (first | (omega) | intro _ | refine ⟨?_,?_⟩)
        · have he':=eq_false he
          have XZ:Op.bytesLess pn.name last=true:=by
           rcases u6 pn.name last with g | g | g
           · exact g
           · exact absurd g he
           · rw [g] at hbl;cases hbl
          simp(maxSteps:=400000)only[↓ax,ay,BEq.rfl,reduceIte,reduceCtorEq,Nat.reduceLT,reduceAdd,reduceSub,reduceMul,Nat.reduceBEq,reduceLeDiff,reduceToNat,reduceLE,hQ,hat,hmn,z0,zi,hgi,qR,k9,k2,hu,↓d9,kz,he',XZ,hr,qW,gq,gP,uj,bG,dF,reduceEq]
          repeat' (first | (omega) | intro _ | refine ⟨?_,?_⟩)
  · have k2':=eq_false k2
    have k2b:(n.kind==2)=false:=by simpa using k2
    have k2n:(n.kind !=2)=true:=by simpa using k2
    simp only [BEq.rfl,k2b,k2n,Bool.true_and,Bool.false_or,Bool.true_or,Bool.and_true] at hrb
    by_cases hnm:pn.name=[]
    · have hnm':=eq_true hnm
      have hst:=step (by rw [← hrb,hnm];simp)
      by_cases k1:n.kind=1
      · have k9:(pn.kind=9)=True:=by rw [hb];exact eq_true k1
        have k1':=eq_true k1
        simp(maxSteps:=400000)only[↓ax,ay,BEq.rfl,reduceIte,reduceCtorEq,Nat.reduceLT,reduceAdd,reduceSub,reduceMul,Nat.reduceBEq,reduceLeDiff,reduceToNat,reduceLE,hQ,hat,hmn,z0,zi,hgi,qR,hlt1,k9,k1,hnm',↓eO,hnx,toNat_natCast,qW,gq,gP,uj,bG,dF,reduceEq]
        repeat' (first | exact hst | (omega) | intro _ | refine ⟨?_,?_⟩)
      · have k1':=eq_false k1
        have k9:(pn.kind=9)=False:=by rw [hb];exact k1'
        simp(maxSteps:=400000)only[↓ax,ay,BEq.rfl,reduceIte,reduceCtorEq,Nat.reduceLT,reduceAdd,reduceSub,reduceMul,Nat.reduceBEq,reduceLeDiff,reduceToNat,reduceLE,hQ,hat,hmn,z0,zi,hgi,qR,hlt1,k9,k1',k2',hnm',↓eO,hnx,toNat_natCast,qW,gq,gP,uj,bG,dF,reduceEq]
        repeat' (first | exact hst | (omega) | intro _ | refine ⟨?_,?_⟩)
    · have hnm':=eq_false hnm
      have hr:l_ n none ps=false:=by rw [← hrb];simp [hnm]
      by_cases k1:n.kind=1
      · have k9:(pn.kind=9)=True:=by rw [hb];exact eq_true k1
        simp(maxSteps:=400000)only[↓ax,ay,BEq.rfl,reduceIte,reduceCtorEq,Nat.reduceLT,reduceAdd,reduceSub,reduceMul,Nat.reduceBEq,reduceLeDiff,reduceToNat,reduceLE,hQ,hat,hmn,z0,zi,hgi,qR,k9,k1,hnm',hr,qW,gq,gP,uj,bG,dF,reduceEq]
      · have k1':=eq_false k1
        have k9:(pn.kind=9)=False:=by rw [hb];exact k1'
        simp(maxSteps:=400000)only[↓ax,ay,BEq.rfl,reduceIte,reduceCtorEq,Nat.reduceLT,reduceAdd,reduceSub,reduceMul,Nat.reduceBEq,reduceLeDiff,reduceToNat,reduceLE,hQ,hat,hmn,z0,zi,hgi,qR,k9,k1',k2',hnm',hr,qW,gq,gP,uj,bG,dF,reduceEq]
def ic:dN:=fun args objs K=>match args with
 | [a0,.int .i64 i]=>gZ aH a0 (HK.mk:HK fun t=>(0≤i)∧(i.toNat<t.length)∧(um t)∧(Y.One t)∧K (.bool (zJ t i.toNat)) objs 0)
 | _=>False
theorem L_:aF Tryz.prog 71 (ic):=by
 intro args objs K h
 unfold ic at h
 split at h
 · rename_i a0 i
   obtain ⟨t,rfl,h1,h2,h3,h4,hk⟩:=h
   exact ⟨_,_,_,.pure _ rfl ((by have:=L9 t i.toNat _ h3 h4 (List.getElem?_eq_getElem h2);rwa [Int.toNat_of_nonneg h1] at this)),hk⟩
 · exact h.elim
theorem RH (nm:List UInt8) (o:Nat) (q:bf) (qs:List bf):uL nm o (q::qs)=if Y.nameOf q=nm then some (o,q) else uL nm (o+q.length) qs:=rfl
theorem DV (t:bf) (hs:um t) (ho:Y.One t):∀ (p:List Stp) (at':Nat),at'<t.length→p.length≤1000000→ah Tryz.prog 73 [aH t,.int .i64 at',jR p] [] (.int .i64 (jH t at' p)) []
 | [],at',hat,hp=>by
  refine qH.bg (T:=aQ Tryz.prog []) 0 hD (aj ai) aV (by decide) fun Q hQ=>?_
  have hr:jH t at' []=at':=by simp [jH,rq]
  have c00:((0:Nat):Int)=0:=rfl
  (conv=>arg 4;cbv);simp(maxSteps:=400000)only[↓ax,ay,BEq.rfl,reduceIte,reduceCtorEq,Nat.reduceLT,reduceAdd,reduceSub,reduceMul,Nat.reduceBEq,reduceLeDiff,reduceToNat,reduceLE,hQ,hr,c00]
 | s::p,at',hat,hp=>by
  have hok:aF Tryz.prog 73 (fun args objs K=>∃ i:Int,args=[aH t,.int .i64 i,jR p]∧0≤i∧i<t.length∧K (.int .i64 (jH t i.toNat p)) objs 0):=by
   rintro args objs K ⟨i,rfl,h1,h2,hk⟩
   have:=DV t hs ho p i.toNat (by omega) (by simp only [List.length_cons] at hp;omega)
   rw [Int.toNat_of_nonneg h1] at this
   exact ⟨_,_,_,.pure _ rfl this,hk⟩
  refine qH.bg (T:=aQ Tryz.prog [(45,eO),(73,_)]) 0 hD (aj (af mg (af hok ai))) aV (by decide) fun Q hQ=>?_
  have hl:=hs.len
  have hgt:=List.getElem?_eq_getElem hat
  generalize t[at']=n at hgt
  obtain ⟨ps,c,hm,hmL,hps,hsk,hfl,hone,hsub,hle⟩:=Y.uh ho hgt
  have hpl:=Y.bP _ _ _ hps
  have hpo:Y.partsOf n ps.flatten=ps:=by
   have:=Y.iF ps hone
   rw [hpl] at this
   simp [Y.partsOf,this]
  have z0:(0≤(at':Int))=True:=eq_true (by omega)
  have hg0:(s::p)[0]?=some s:=rfl
  have hdr:(s::p).drop 1=p:=rfl
  have hpn:(((s::p).length:Int)=0)=False:=eq_false (by simp only [List.length_cons];omega)
  have hwl:1≤(s::p).length:=by simp
  generalize hsp:s::p=w at *
  by_cases hk:n.kind=2∧s.part=false
  rotate_left 1
  · have hr:jH t at' w=-1:=by
     simp only [jH,hsub,← hsp,rq];rw [if_neg hk]
    by_cases k2:n.kind=2
    · have hpt:s.part=true:=by
       cases h:s.part with
       | true=>rfl
       | false=>exact absurd ⟨k2,h⟩ hk
      (conv=>arg 4;cbv);simp(maxSteps:=400000)only[↓ax,ay,BEq.rfl,reduceIte,reduceCtorEq,Nat.reduceLT,reduceAdd,reduceSub,reduceMul,Nat.reduceBEq,reduceLeDiff,reduceToNat,reduceLE,hQ,hpn,hgt,z0,k2,hg0,hpt,hr,reduceEq]
    · have k2':=eq_false k2
      (conv=>arg 4;cbv);simp(maxSteps:=400000)only[↓ax,ay,BEq.rfl,reduceIte,reduceCtorEq,Nat.reduceLT,reduceAdd,reduceSub,reduceMul,Nat.reduceBEq,reduceLeDiff,reduceToNat,reduceLE,hQ,hpn,hgt,z0,k2',hr]
  obtain ⟨k2,hpt⟩:=hk
  have hr:jH t at' w=match uL s.name 1 ps with | some (o,q)=>(match (rq p q).map (o+·) with | some j=>((at'+j:Nat):Int) | none=>-1) | none=>-1:=by
   simp only [jH,hsub,← hsp,rq]
   rw [if_pos ⟨k2,hpt⟩,hpo]
   cases uL s.name 1 ps with
   | none=>rfl
   | some oq=>rfl
  (conv=>arg 4;cbv);simp(maxSteps:=400000)only[↓ax,ay,BEq.rfl,reduceIte,reduceCtorEq,Nat.reduceLT,reduceAdd,reduceSub,reduceMul,Nat.reduceBEq,reduceLeDiff,reduceToNat,reduceLE,hQ,hpn,hgt,z0,k2,hg0,hpt,reduceEq]
  refine ⟨⟨by omega,by omega⟩,?_⟩
  refine aA (fun m S=>∃ (i:Nat) (rest:List bf),m=rest.length∧rest.length≤ps.length∧at'+1≤i∧Y.parts rest.length (t.drop i)=some rest∧i≤t.length∧uL s.name (i-at') rest=uL s.name 1 ps∧
   S=⟨dh 54 [(0,aH t),(1,.int .i64 at'),(2,jR w),(7,.int .i64 i),(8,.int .i64 ((ps.length:Int)-rest.length))],[]⟩) ps.length ⟨at'+1,ps,rfl,Nat.le_refl _,Nat.le_refl _,by rw [hpl];exact hps,by omega,by rw [show at'+1-at'=1 by omega],?_⟩ ?_
  · simp only [bJ,keepR,reduceAdd,kU,Nat.reduceBEq,List.map_nil]
    simp
  rintro m S ⟨i,rest,rfl,hrl,hia,hrp,hit,hrb,rfl⟩
  have hmn:n.many=(ps.length:Int):=by omega
  have zi:(0≤(i:Int))=True:=eq_true (by omega)
  cases rest with
  | nil=>
   have hlt:((ps.length:Int)-((0:Nat):Int)<(ps.length:Int))=False:=eq_false (by omega)
   have hr':jH t at' w=-1:=by rw [hr,← hrb];rfl
   simp(maxSteps:=400000)only[↓ax,ay,BEq.rfl,reduceIte,reduceCtorEq,Nat.reduceLT,reduceAdd,reduceSub,reduceMul,Nat.reduceBEq,reduceLeDiff,reduceToNat,reduceLE,hQ,hgt,hmn,z0,List.length_nil,hlt,hr']
  | cons q qs=>
   obtain ⟨pc,Zy,h1,h2,h3⟩:=Y.dP (k:=qs.length) hrp
   simp only [List.cons.injEq] at h2
   obtain ⟨hp',rfl⟩:=h2
   have hpc:=Y.dG _ _ _ h1
   simp only [List.length_drop] at hpc
   have hil:i<t.length:=by omega
   have hgi:=List.getElem?_eq_getElem hil
   have hdi:=List.drop_eq_getElem_cons hil
   generalize t[i]=pn at hgi hdi
   obtain ⟨k,hk⟩:∃ k,pc=k+1:=⟨pc-1,by omega⟩
   have hname:Y.nameOf q=pn.name:=by rw [hp',hdi,hk];rfl
   have hnx:p_ t i=(i+pc:Nat):=wD (Y.lW _ _ _ _ h1 (by omega))
   have hsq:Y.p9 t i=q:=by unfold Y.p9;rw [h1];exact hp'.symm
   have VW:q.length=pc:=by rw [hp',List.length_take,List.length_drop];omega
   simp only [List.length_cons] at hrl
   have h3':Y.parts qs.length (t.drop (i+pc))=some qs:=by rw [← List.drop_drop];exact h3
   have qR:((ps.length:Int)-((qs.length+1:Nat):Int)<(ps.length:Int))=True:=eq_true (by omega)
   have hlt1:(-9223372036854775808≤(ps.length:Int)-((qs.length+1:Nat):Int)+1∧(ps.length:Int)-((qs.length+1:Nat):Int)+1≤9223372036854775807)=True:=eq_true ⟨by omega,by omega⟩
   have e:(ps.length:Int)-((qs.length+1:Nat):Int)+1=(ps.length:Int)-qs.length:=by omega
   rw [RH,hname] at hrb
   by_cases hnm:pn.name=s.name
   · have hnm':=eq_true hnm
     rw [if_pos hnm] at hrb
     have hr':jH t at' w=jH t i p:=by
      rw [hr,← hrb]
      simp only [jH,hsq]
      cases rq p q with
      | none=>rfl
      | some j=>simp only [Option.map_some];omega
     simp(maxSteps:=400000)only[↓ax,ay,BEq.rfl,reduceIte,reduceCtorEq,Nat.reduceLT,reduceAdd,reduceSub,reduceMul,Nat.reduceBEq,reduceLeDiff,reduceToNat,reduceLE,hQ,hgt,hmn,z0,zi,hgi,hg0,qR,hnm',hr',List.take_length,hdr,toNat_natCast]
     repeat' (first | (omega) | exact rfl | exact ⟨(i:Int),rfl,by omega,by omega,by rw [toNat_natCast]⟩ | intro _ | refine ⟨?_,?_⟩)
   · have hnm':=eq_false hnm
     rw [if_neg hnm] at hrb
     simp(maxSteps:=400000)only[↓ax,ay,BEq.rfl,reduceIte,reduceCtorEq,Nat.reduceLT,reduceAdd,reduceSub,reduceMul,Nat.reduceBEq,reduceLeDiff,reduceToNat,reduceLE,hQ,hgt,hmn,z0,zi,hgi,hg0,qR,hlt1,hnm',↓eO,hnx,toNat_natCast]
     repeat' (first | (omega) | exact ⟨qs.length,by omega,i+pc,qs,rfl,by omega,by omega,h3',by omega,by rw [show i+pc-at'=i-at'+q.length by omega];exact hrb,by rw [e]⟩ | intro _ | refine ⟨?_,?_⟩)
def jY:dN:=fun args objs K=>match args with
 | [a0,.int .i64 i,a2]=>gZ aH a0 (HK.mk:HK fun t=>gZ jR a2 (HK.mk:HK fun p=>(0≤i)∧(i<t.length)∧(um t)∧(Y.One t)∧(p.length≤1000000)∧K (.int .i64 (jH t i.toNat p)) objs 0))
 | _=>False
theorem Ma:aF Tryz.prog 73 (jY):=by
 intro args objs K h
 unfold jY at h
 split at h
 · rename_i a0 i a2
   obtain ⟨t,rfl,p,rfl,h1,h2,h3,h4,h5,hk⟩:=h
   exact ⟨_,_,_,.pure _ rfl ((by have:=DV t h3 h4 p i.toNat (by omega) h5;rwa [Int.toNat_of_nonneg h1] at this)),hk⟩
 · exact h.elim
end Lp
namespace Lp
open Go Go.Proofs
open List (length_drop map_nil)
open Nat (reduceAdd reduceLeDiff reduceMul reduceSub)
open Int (reduceLE reduceToNat toNat_natCast)
theorem RI {x:fe}(h:b_ bI x=true) (hk:x.kind=7∨x.kind=8):x.many=1:=by
 rcases hk with k | k <;> simp only [b_,k,Int.reduceEq,if_false,if_true,or_false,or_true,false_or,true_or,Bool.and_eq_true,beq_iff_eq] at h <;> exact h.1.1.1
theorem Vv {t:bf}{i:Nat}{x:fe}(ho:Y.One t) (hx:t[i]?=some x) (hm:(x.kind=7∨x.kind=8)→x.many=1) :
  (x.kind=7∨x.kind=8→i+1<t.length∧(kC t i=true↔0≤jH t (i+1) (iR x.s)∧∃ y,t[(jH t (i+1) (iR x.s)).toNat]?=some y∧y.kind=1))∧(¬ (x.kind=7∨x.kind=8)→kC t i=true):=by
 obtain ⟨ps,c,h1,h2,h3,h4,h5,h6,h7,h8⟩:=Y.uh ho hx
 have hl:=(List.getElem?_eq_some_iff.1 hx).1
 have hd:=List.drop_eq_getElem_cons hl
 have he:kC t i=Fg iR x ps:=by
  rw [List.getElem?_eq_getElem hl] at hx
  cases hx
  simp only [kC,hd,h3]
 rw [he]
 constructor
 · intro hk
   rw [hm hk] at h3 h4
   obtain ⟨pc,qs,g1,g2,g3⟩:=Y.dP (k:=0) h3
   have hq:qs=[]:=by simpa [Y.parts] using g3.symm
   subst hq
   have hil:i+1<t.length:=by
    have:=Y.dG _ _ _ g1
    rw [length_drop] at this;omega
   have hsub:Y.p9 t (i+1)=(t.drop (i+1)).take pc:=by unfold Y.p9;rw [g1]
   refine ⟨hil,?_⟩
   rw [← XW ho hil,hsub]
   simp only [Fg,if_pos hk,g2]
 · intro hk
   simp only [Fg,if_neg hk]
theorem Mc (t:bf) (hs:um t):ah Tryz.prog 48 [aH t] [] (.bool (fK t)) []:=by
 have hl:=hs.len
 refine zC.bg (T:=aQ Tryz.prog [(45,eO),(70,fU),(71,ic),(72,fP),(73,jY)]) 0 hD (aj (af mg (af I7 (af L_ (af Bc (af Ma ai)))))) aV (by decide) fun Q hQ=>?_
 rcases Nat.eq_zero_or_pos t.length with hv | hv
 · have hr:fK t=false:=by
    have:t=[]:=List.length_eq_zero_iff.1 hv
    rw [this];rfl
   have hv':((t.length:Int)=0)=True:=eq_true (by omega)
   (conv=>arg 4;cbv);simp(maxSteps:=400000)only[↓ax,ay,BEq.rfl,reduceIte,reduceCtorEq,Nat.reduceLT,reduceAdd,reduceSub,reduceMul,Nat.reduceBEq,reduceLeDiff,reduceToNat,reduceLE,hQ,hr,hv']
 have hv':((t.length:Int)=0)=False:=eq_false (by omega)
 obtain ⟨n0,r0,hvr⟩:∃ n r,t=n::r:=by
  cases t with
  | nil=>simp at hv
  | cons n r=>exact ⟨n,r,rfl⟩
 have hg0:t[0]?=some n0:=by rw [hvr];rfl
 have hnm:Y.nameOf t=n0.name:=by rw [hvr];rfl
 have hkd:Y.kindOf t=n0.kind:=by rw [hvr];rfl
 have hne:t.isEmpty=false:=by rw [hvr];rfl
 by_cases hname:n0.name=[]
 rotate_left 1
 · have hr:fK t=false:=by simp [fK,hnm,hname]
   (conv=>arg 4;cbv);simp(maxSteps:=400000)only[↓ax,ay,BEq.rfl,reduceIte,reduceCtorEq,Nat.reduceLT,reduceAdd,reduceSub,reduceMul,Nat.reduceBEq,reduceLeDiff,reduceToNat,reduceLE,hQ,hr,hv',hg0,hname]
 by_cases hk9:n0.kind=9
 · have hr:fK t=false:=by simp [fK,hkd,hk9]
   (conv=>arg 4;cbv);simp(maxSteps:=400000)only[↓ax,ay,BEq.rfl,reduceIte,reduceCtorEq,Nat.reduceLT,reduceAdd,reduceSub,reduceMul,Nat.reduceBEq,reduceLeDiff,reduceToNat,reduceLE,hQ,hr,hv',hg0,hname,hk9]
 have acp:=eq_false hk9
 have hz:Int.toNat 0=0:=rfl
 by_cases hnx:p_ t 0=(t.length:Int)
 rotate_left 1
 · have hr:fK t=false:=by
    have:Y.gY t.length t 1≠some t.length:=fun h=>hnx (by rw [wD (i:=0) (by simpa using h)];simp)
    simp [fK,this]
   have adb:=eq_false hnx
   (conv=>arg 4;cbv);simp(maxSteps:=400000)only[↓ax,ay,BEq.rfl,reduceIte,reduceCtorEq,Nat.reduceLT,reduceAdd,reduceSub,reduceMul,Nat.reduceBEq,reduceLeDiff,reduceToNat,reduceLE,hQ,hr,hv',hg0,hname,acp,hz,↓eO,adb]
   exact ⟨Nat.zero_le _,hl⟩
 have hn:Y.gY t.length t 1=some t.length:=by
  unfold p_ at hnx
  rw [List.drop_zero] at hnx
  cases hx:Y.gY t.length t 1 with
  | none=>rw [hx] at hnx;simp only at hnx;omega
  | some c=>rw [hx] at hnx;simp only at hnx;congr 1;omega
 have ho:Y.One t:=Y.nE _ _ _ _ hn
 have hr:fK t=Y.fA (qj bI iR) t:=by
  simp [fK,hnm,hkd,hname,hk9,hn,hne]
 (conv=>arg 4;cbv);simp(maxSteps:=400000)only[↓ax,ay,BEq.rfl,reduceIte,reduceCtorEq,Nat.reduceLT,reduceAdd,reduceSub,reduceMul,Nat.reduceBEq,reduceLeDiff,reduceToNat,reduceLE,hQ,hv',hg0,hname,acp,hz,↓eO,hnx]
 refine ⟨Nat.zero_le _,hl,?_⟩
 refine aA (fun m S=>∃ i:Nat,i+m=t.length∧Y.fA (qj bI iR) (t.drop i)=Y.fA (qj bI iR) t∧S=⟨dh 87 [(0,aH t),(3,.int .i64 i)],[]⟩) t.length ⟨0,by omega,rfl,?_⟩ ?_
 · simp only [bJ,keepR,reduceAdd,kU,Nat.reduceBEq,map_nil]
   rfl
 rintro m S ⟨i,him,hgd,rfl⟩
 rcases Nat.lt_or_ge i t.length with h | h
 · have hg:=List.getElem?_eq_getElem h
   have htx:=hs.txt _ (List.getElem_mem h)
   generalize t[i]=n at hg htx
   have hd:=Ry hg
   rw [hgd,← hr] at hd
   have zi:(0≤(i:Int))=True:=eq_true (by omega)
   have MK:(0≤(i:Int)+1)=True:=eq_true (by omega)
   have Ld:((i:Int)+1).toNat=i+1:=by omega
   have hlt:((i:Int)<(t.length:Int))=True:=eq_true (by omega)
   have next:fK t=Y.fA (qj bI iR) (t.drop (i+1))→∃ m',m'<m∧∃ EQ:Nat,EQ+m'=t.length∧Y.fA (qj bI iR) (t.drop EQ)=Y.fA (qj bI iR) t∧(⟨dh 87 [(0,aH t),(3,.int .i64 ((i:Int)+1))],[]⟩:St)=⟨dh 87 [(0,aH t),(3,.int .i64 EQ)],[]⟩:=fun e=>
    ⟨m-1,by omega,i+1,by omega,by rw [← e,hr],rfl⟩
   cases hp:b_ bI n
   · have hr2:fK t=false:=by rw [hd,hp];rfl
     simp(maxSteps:=400000)only[↓ax,ay,BEq.rfl,reduceIte,reduceCtorEq,Nat.reduceLT,reduceAdd,reduceSub,reduceMul,Nat.reduceBEq,reduceLeDiff,reduceToNat,reduceLE,hQ,hg,↓fU,↓ic,hp,zi,hlt,hr2]
     exact ⟨htx.1,htx.2.2⟩
   cases hq:zJ t i
   · have hr2:fK t=false:=by rw [hd,hp,hq];rfl
     simp(maxSteps:=400000)only[↓ax,ay,BEq.rfl,reduceIte,reduceCtorEq,Nat.reduceLT,reduceAdd,reduceSub,reduceMul,Nat.reduceBEq,reduceLeDiff,reduceToNat,reduceLE,hQ,hg,↓fU,↓ic,toNat_natCast,hp,hq,zi,hlt,hr2]
     exact ⟨htx.1,htx.2.2,h,hs,ho⟩
   rw [hp,hq,Bool.true_and,Bool.true_and] at hd
   obtain ⟨l1,l2⟩:=Vv ho hg (RI hp)
   by_cases hk:n.kind=7∨n.kind=8
   rotate_left 1
   · have k7:(n.kind=7)=False:=eq_false fun h=>hk (.inl h)
     have k8:(n.kind=8)=False:=eq_false fun h=>hk (.inr h)
     rw [l2 hk,Bool.true_and] at hd
     have hst:=next hd
     simp(maxSteps:=400000)only[↓ax,ay,BEq.rfl,reduceIte,reduceCtorEq,Nat.reduceLT,reduceAdd,reduceSub,reduceMul,Nat.reduceBEq,reduceLeDiff,reduceToNat,reduceLE,hQ,hg,↓fU,↓ic,toNat_natCast,hp,hq,zi,hlt,k7,k8]
     repeat' (first | omega | exact htx.1 | exact htx.2.2 | exact hs | exact ho | exact hst | refine ⟨?_,?_⟩)
   obtain ⟨hil,Xp⟩:=l1 hk
   have hpl:=JW n.s
   have hlr:=XV (p:=iR n.s) ho hil
   by_cases h7:n.kind=7
   · have k7:=eq_true h7
     generalize hL:jH t (i+1) (iR n.s)=L at *
     by_cases hn0:L<0
     · have Md:=eq_true hn0
       have hr2:fK t=false:=by
        rw [hd]
        have:kC t i=false:=by
         cases hx:kC t i with
         | false=>rfl
         | true=>exact absurd (Xp.1 hx).1 (by omega)
        rw [this];rfl
       simp(maxSteps:=400000)only[↓ax,ay,BEq.rfl,reduceIte,reduceCtorEq,Nat.reduceLT,reduceAdd,reduceSub,reduceMul,Nat.reduceBEq,reduceLeDiff,reduceToNat,reduceLE,hQ,hg,↓fU,↓ic,↓fP,↓jY,fV,toNat_natCast,Ld,hp,hq,zi,hlt,k7,hL,Md,hr2]
       repeat' (first | omega | exact htx.1 | exact htx.2.2 | exact hs | exact ho | refine ⟨?_,?_⟩)
     · have Md:=eq_false hn0
       obtain ⟨j,rfl⟩:∃ j:Nat,L=j:=⟨L.toNat,by omega⟩
       rw [toNat_natCast] at Xp
       have hjl:j<t.length:=by omega
       have hgj:=List.getElem?_eq_getElem hjl
       have zj:(0≤(j:Int))=True:=eq_true (by omega)
       generalize t[j]=y at hgj
       by_cases hk1:y.kind=1
       · have hla:kC t i=true:=Xp.2 ⟨by omega,y,hgj,hk1⟩
         rw [hla,Bool.true_and] at hd
         have hst:=next hd
         simp(maxSteps:=400000)only[↓ax,ay,BEq.rfl,reduceIte,reduceCtorEq,Nat.reduceLT,reduceAdd,reduceSub,reduceMul,Nat.reduceBEq,reduceLeDiff,reduceToNat,reduceLE,hQ,hg,↓fU,↓ic,↓fP,↓jY,fV,toNat_natCast,Ld,hp,hq,zi,hlt,k7,hL,Md,zj,hgj,hk1]
         repeat' (first | omega | exact htx.1 | exact htx.2.2 | exact hs | exact ho | exact hst | refine ⟨?_,?_⟩)
       · have RJ:=eq_false hk1
         have hr2:fK t=false:=by
          rw [hd]
          have:kC t i=false:=by
           cases hx:kC t i with
           | false=>rfl
           | true=>obtain ⟨_,z,hz1,hz2⟩:=Xp.1 hx;rw [hgj] at hz1;cases hz1;exact absurd hz2 hk1
          rw [this];rfl
         simp(maxSteps:=400000)only[↓ax,ay,BEq.rfl,reduceIte,reduceCtorEq,Nat.reduceLT,reduceAdd,reduceSub,reduceMul,Nat.reduceBEq,reduceLeDiff,reduceToNat,reduceLE,hQ,hg,↓fU,↓ic,↓fP,↓jY,fV,toNat_natCast,Ld,hp,hq,zi,hlt,k7,hL,Md,zj,hgj,RJ,hr2]
         repeat' (first | omega | exact htx.1 | exact htx.2.2 | exact hs | exact ho | refine ⟨?_,?_⟩)
   · have k7:=eq_false h7
     have k8:=eq_true (hk.resolve_left h7)
     generalize hL:jH t (i+1) (iR n.s)=L at *
     by_cases hn0:L<0
     · have Md:=eq_true hn0
       have hr2:fK t=false:=by
        rw [hd]
        have:kC t i=false:=by
         cases hx:kC t i with
         | false=>rfl
         | true=>exact absurd (Xp.1 hx).1 (by omega)
        rw [this];rfl
       simp(maxSteps:=400000)only[↓ax,ay,BEq.rfl,reduceIte,reduceCtorEq,Nat.reduceLT,reduceAdd,reduceSub,reduceMul,Nat.reduceBEq,reduceLeDiff,reduceToNat,reduceLE,hQ,hg,↓fU,↓ic,↓fP,↓jY,fV,toNat_natCast,Ld,hp,hq,zi,hlt,k7,k8,hL,Md,hr2]
       repeat' (first | omega | exact htx.1 | exact htx.2.2 | exact hs | exact ho | refine ⟨?_,?_⟩)
     · have Md:=eq_false hn0
       obtain ⟨j,rfl⟩:∃ j:Nat,L=j:=⟨L.toNat,by omega⟩
       rw [toNat_natCast] at Xp
       have hjl:j<t.length:=by omega
       have hgj:=List.getElem?_eq_getElem hjl
       have zj:(0≤(j:Int))=True:=eq_true (by omega)
       generalize t[j]=y at hgj
       by_cases hk1:y.kind=1
       · have hla:kC t i=true:=Xp.2 ⟨by omega,y,hgj,hk1⟩
         rw [hla,Bool.true_and] at hd
         have hst:=next hd
         simp(maxSteps:=400000)only[↓ax,ay,BEq.rfl,reduceIte,reduceCtorEq,Nat.reduceLT,reduceAdd,reduceSub,reduceMul,Nat.reduceBEq,reduceLeDiff,reduceToNat,reduceLE,hQ,hg,↓fU,↓ic,↓fP,↓jY,fV,toNat_natCast,Ld,hp,hq,zi,hlt,k7,k8,hL,Md,zj,hgj,hk1]
         repeat' (first | omega | exact htx.1 | exact htx.2.2 | exact hs | exact ho | exact hst | refine ⟨?_,?_⟩)
       · have RJ:=eq_false hk1
         have hr2:fK t=false:=by
          rw [hd]
          have:kC t i=false:=by
           cases hx:kC t i with
           | false=>rfl
           | true=>obtain ⟨_,z,hz1,hz2⟩:=Xp.1 hx;rw [hgj] at hz1;cases hz1;exact absurd hz2 hk1
          rw [this];rfl
         simp(maxSteps:=400000)only[↓ax,ay,BEq.rfl,reduceIte,reduceCtorEq,Nat.reduceLT,reduceAdd,reduceSub,reduceMul,Nat.reduceBEq,reduceLeDiff,reduceToNat,reduceLE,hQ,hg,↓fU,↓ic,↓fP,↓jY,fV,toNat_natCast,Ld,hp,hq,zi,hlt,k7,k8,hL,Md,zj,hgj,RJ,hr2]
         repeat' (first | omega | exact htx.1 | exact htx.2.2 | exact hs | exact ho | refine ⟨?_,?_⟩)
 · have hlt:((i:Int)<(t.length:Int))=False:=eq_false (by omega)
   have hr2:fK t=true:=by rw [hr,← hgd,List.drop_eq_nil_of_le h];rfl
   simp(maxSteps:=400000)only[↓ax,ay,BEq.rfl,reduceIte,reduceCtorEq,Nat.reduceLT,reduceAdd,reduceSub,reduceMul,Nat.reduceBEq,reduceLeDiff,reduceToNat,reduceLE,hQ,hlt,hr2]
def qc:dN:=fun args objs K=>match args with
 | [a0]=>gZ aH a0 (HK.mk:HK fun t=>(um t)∧K (.bool (fK t)) objs 0)
 | _=>False
theorem I8:aF Tryz.prog 48 (qc):=by
 intro args objs K h
 unfold qc at h
 split at h
 · rename_i a0
   obtain ⟨t,rfl,h1,hk⟩:=h
   exact ⟨_,_,_,.pure _ rfl (Mc t h1),hk⟩
 · exact h.elim
theorem aau:(dL ⟨0,aM⟩).cells.length=7∧(∀ a,(dL a).cells.length=7)∧(∀ a,(dL a).cells.all PV.storable=true):=⟨rfl,fun _=>rfl,fun _=>rfl⟩
theorem Me (t:bf) (at':Nat) (n:fe) (hl:t.length≤1000000) (hat:t[at']?=some n) (hm:n.kind=1→0≤n.many∧at'+1+n.many.toNat≤t.length) (hb:-1000000000≤n.many∧n.many≤1000000000) :
  ah Tryz.prog 49 [aH t,.int .i64 at'] [] (bV (if n.kind=1 then ((t.drop (at'+1)).take n.many.toNat).map jC else [])) []:=by
 have Y2:=(List.getElem?_eq_some_iff.1 hat).1
 have z0:(0≤(at':Int))=True:=eq_true (by omega)
 generalize hR:(if n.kind=1 then ((t.drop (at'+1)).take n.many.toNat).map jC else [])=R
 refine zD.bg (T:=aQ Tryz.prog []) 1 hD (aj ai) aV (by decide) fun Q hQ=>?_
 (conv=>arg 4;cbv);simp(maxSteps:=400000)only[↓ax,ay,BEq.rfl,reduceIte,reduceCtorEq,Nat.reduceLT,reduceAdd,reduceSub,reduceMul,Nat.reduceBEq,reduceLeDiff,reduceToNat,reduceLE,hQ,atB,abb,aau]
 refine ⟨⟨by omega,by omega⟩,?_⟩
 by_cases hk:n.kind=1
 rotate_left 1
 · rw [if_neg hk] at hR
   subst hR
   have hk':=eq_false hk
   refine aA (fun m S=>∃ _u:Unit,S=⟨dh 44 [(0,aH t),(1,.int .i64 at'),(5,.aY 0 1),(6,.int .i64 ((at':Int)+1))],[⟨87,7,[],true,1⟩]⟩) 0 ⟨(),?_⟩ ?_
   · simp only [bJ,keepR,reduceAdd,kU,Nat.reduceBEq,map_nil]
   rintro m S ⟨_,rfl⟩
   have e0:∀ ver,eP 1 0 [⟨87,7,[],true,ver⟩] (.aY 0 ver)=bV []:=fun ver=>L6 [] ver 87 []
   by_cases hgt:(at':Int)+1≤(at':Int)+n.many
   · have abf:=eq_true hgt
     simp(maxSteps:=400000)only[↓ax,ay,BEq.rfl,reduceIte,reduceCtorEq,Nat.reduceLT,reduceAdd,reduceSub,reduceMul,Nat.reduceBEq,reduceLeDiff,reduceToNat,reduceLE,hQ,hat,z0,hk',abf,e0]
     repeat' (first | (omega) | exact rfl | intro _ | refine ⟨?_,?_⟩)
   · have abf:=eq_false hgt
     simp(maxSteps:=400000)only[↓ax,ay,BEq.rfl,reduceIte,reduceCtorEq,Nat.reduceLT,reduceAdd,reduceSub,reduceMul,Nat.reduceBEq,reduceLeDiff,reduceToNat,reduceLE,hQ,hat,z0,hk',abf,e0]
     repeat' (first | (omega) | exact rfl | intro _ | refine ⟨?_,?_⟩)
 rw [if_pos hk] at hR
 subst hR
 obtain ⟨hm0,hm1⟩:=hm hk
 have hk':=eq_true hk
 refine aA (fun m S=>∃ (i ver:Nat),i+m=n.many.toNat∧S=⟨dh 44 [(0,aH t),(1,.int .i64 at'),(5,.aY 0 ver),(6,.int .i64 ((at':Int)+1+i))],[⟨87,7,(((t.drop (at'+1)).take i).map jC).map dL,true,ver⟩]⟩) n.many.toNat ⟨0,1,by omega,?_⟩ ?_
 · simp only [bJ,keepR,reduceAdd,kU,Nat.reduceBEq,map_nil]
   simp
 rintro m S ⟨i,ver,him,rfl⟩
 rcases Nat.lt_or_ge i n.many.toNat with h | h
 · have hlt:((at':Int)+1+(i:Int)≤(at':Int)+n.many)=True:=eq_true (by omega)
   have hil:at'+1+i<t.length:=by omega
   have ti:((at':Int)+1+(i:Int)).toNat=at'+1+i:=by omega
   have zi:(0≤(at':Int)+1+(i:Int))=True:=eq_true (by omega)
   have hgi:=List.getElem?_eq_getElem hil
   have hgd:(t.drop (at'+1))[i]?=some t[at'+1+i]:=by rw [List.getElem?_drop];exact hgi
   generalize t[at'+1+i]=x at hgi hgd
   have htk:((t.drop (at'+1)).take (i+1)).map jC=((t.drop (at'+1)).take i).map jC++[⟨x.n,x.c⟩]:=by
    rw [List.take_add_one,hgd];simp [jC]
   have tl:((t.drop (at'+1)).take i).length=i:=by rw [List.length_take,length_drop];omega
   simp(maxSteps:=400000)only[↓ax,ay,BEq.rfl,reduceIte,reduceCtorEq,Nat.reduceLT,reduceAdd,reduceSub,reduceMul,Nat.reduceBEq,reduceLeDiff,reduceToNat,reduceLE,hQ,hat,z0,hk',hlt,ti,zi,hgi,atB,abb,aau,tl]
   repeat' (first | (omega) | exact ⟨m-1,by omega,i+1,ver+1,by omega,by rw [htk,List.map_append,List.map_cons,map_nil,Int.natCast_add,Int.natCast_one,Int.add_assoc]⟩ | exact rfl | intro _ | refine ⟨?_,?_⟩)
 · have hi:i=n.many.toNat:=by omega
   subst hi
   have hlt:((at':Int)+1+(n.many.toNat:Int)≤(at':Int)+n.many)=False:=eq_false (by omega)
   simp(maxSteps:=400000)only[↓ax,ay,BEq.rfl,reduceIte,reduceCtorEq,Nat.reduceLT,reduceAdd,reduceSub,reduceMul,Nat.reduceBEq,reduceLeDiff,reduceToNat,reduceLE,hQ,hat,z0,hk',hlt,L6]
   repeat' (first | (omega) | exact rfl | intro _ | refine ⟨?_,?_⟩)
def nD (t:bf) (i:Nat):List lJ:=match t[i]? with
 | some n=>if n.kind=1 then ((t.drop (i+1)).take n.many.toNat).map jC else []
 | none=>[]
theorem I9 (t:bf) (i:Int) (h0:0≤i) (hi:i.toNat<t.length) (hl:t.length≤1000000) (ho:Y.One t):ah Tryz.prog 49 [aH t,.int .i64 i] [] (bV (nD t i.toNat)) []:=by
 have hg:=List.getElem?_eq_getElem hi
 generalize t[i.toNat]=n at hg
 obtain ⟨ps,c,h1,h2,h3,h4,h5,h6,h7,h8⟩:=Y.uh ho hg
 have hpl:=Y.bP _ _ _ h3
 have hfl:ps.length≤ps.flatten.length:=by
  have:∀ qs:List bf,(∀ p ∈ qs,Y.One p)→qs.length≤qs.flatten.length:=by
   intro qs
   induction qs with
   | nil=>intro _;simp
   | cons q qs ih=>
    intro h
    have a:=ih fun p hp=>h p (List.mem_cons_of_mem _ hp)
    have b:=List.length_pos_iff.2 (h q (List.mem_cons_self ..)).ne
    simp only [List.length_cons,List.flatten_cons,List.length_append];omega
  exact this ps h6
 rw [h5,List.length_take,length_drop] at hfl
 have:=Me t i.toNat n hl hg (fun _=>⟨h1,by omega⟩) ⟨by omega,by omega⟩
 rw [Int.toNat_of_nonneg h0] at this
 simp only [nD,hg]
 exact this
def mh:dN:=fun args objs K=>match args with
 | [a0,.int .i64 i]=>gZ aH a0 (HK.mk:HK fun t=>(0≤i)∧(i.toNat<t.length)∧(t.length≤1000000)∧(Y.One t)∧K (bV (nD t i.toNat)) objs 0)
 | _=>False
theorem Es:aF Tryz.prog 49 (mh):=by
 intro args objs K h
 unfold mh at h
 split at h
 · rename_i a0 i
   obtain ⟨t,rfl,h1,h2,h3,h4,hk⟩:=h
   exact ⟨_,_,_,.pure _ rfl (I9 t i h1 h2 h3 h4),hk⟩
 · exact h.elim
end Lp
