import Derived.Test.YtgoifbjgmgbihaaGreatT07
import Derived.Test.YtgoifbjgmgbihaaGreatT05
set_option linter.unusedSimpArgs false
set_option linter.unusedVariables false
set_option maxRecDepth 20000
set_option maxHeartbeats 16000000
namespace Go.Proofs.YtgoifbjgmgbihaaGreat
open Go.Vi
def dg (m:Man):List Int:=m.ver::(m.segs.length:Int)::m.segs++[m.size]
theorem qM (m:Man):(dg m).length=m.segs.length+3:=by simp[dg]
theorem KB (m:Man):(dg m)[1]?=some (m.segs.length:Int):=rfl
theorem iH (m:Man):bY m=bE (dg m)++dN (iA m):=rfl
theorem Ea {m:Man} (h:manB m=true):∀ v∈dg m,0<=v∧v<9223372036854775808:=by
 obtain⟨h1,h2,h3,h4⟩:=iE h;have hin:=ke _ _ h3;intro v hv;simp only[dg,List.cons_append,List.mem_cons,zX,List.mem_nil_iff,or_false] at hv;rcases hv with rfl|rfl|hv|rfl
 ·omega
 ·omega
 ·have:=hin v hv;omega
 ·omega
theorem Ce (x:Int) (r:List Int):bE (x::r)=ah x.toNat++bE r:=by simp[bE]
theorem AK {m:Man} (h:manB m=true) (j:Nat) (hj:j<(dg m).length):kA ((bY m).drop (bE ((dg m).take j)).length) 0 0=some ((dg m)[j].toNat,nd (dg m)[j].toNat)∧(bE ((dg m).take (j+1))).length=(bE ((dg m).take j)).length+nd (dg m)[j].toNat:=by
 have hv:=Ea h _ (zN hj);have e:bY m=bE ((dg m).take j)++(ah (dg m)[j].toNat++(bE ((dg m).drop (j+1))++dN (iA m))):=by
  have e2:dg m=(dg m).take j++(dg m)[j]::(dg m).drop (j+1):=by rw[<- zD hj,zY]
  have e3:bE (dg m)=bE ((dg m).take j)++(ah (dg m)[j].toNat++bE ((dg m).drop (j+1))):=by
   conv=>lhs;rw[e2]
   rw[lI,Ce]
  rw[iH,e3];simp
 constructor
 ·rw[e,List.drop_left];exact kN _ _ (by omega)
 ·rw[zO hj,lI,zA];simp[bE];rfl
theorem OB {m:Man} (j:Nat) (hj:j<=(dg m).length):(bE ((dg m).take j)).length+4<=(bY m).length:=by
 have:bE (dg m)=bE ((dg m).take j)++bE ((dg m).drop j):=by rw[<- lI,zY]
 rw[iH,this];simp[d9]
def f8:List L:=[zI 0,.d (.l []),zI 0,zW 0]
def sZ (m:Man):V:=.tup [(true,m.l),(false,[zI 0])]
def jg (e:Int):V:=.tup [(true,f8),(false,[zI e])]
def iU (q:List Int) (x:Int):Man:=⟨q.headD 0,(q.drop 2).take (q.length-1-2),q.getLastD 0,x⟩
theorem Cj {m:Man}:iU (dg m) m.sum=m:=by
 obtain⟨v,sg,z,x⟩:=m;have e:(dg ⟨v,sg,z,x⟩).getLastD 0=z:=by
  show((v::(sg.length:Int)::sg)++[z]).getLastD 0=z;rw[List.getLastD_concat]
 unfold iU;rw[e];simp[dg]
theorem jT (q:List Int) (j:Nat) (h:j<q.length):(q.map eI)[j]?=some [.i .i64 q[j]]:=by rw[zG,zE h];rfl
def jl (b:Txt) (i:Nat):Int:=((b[i]?.getD 0).toNat:Nat)
theorem xF (b:Txt) (i:Nat):0<=jl b i∧jl b i<256:=by
 have:=UInt8.toNat_lt (b[i]?.getD 0);unfold jl;omega
def cM (b:Txt) (a:Nat):Nat->Int
 | 0=>jl b (a+3)*16777216+jl b (a+2)*65536+jl b (a+1)*256+jl b a
 | 1=>jl b (a+3)*65536+jl b (a+2)*256+jl b (a+1)
 | 2=>jl b (a+3)*256+jl b (a+2)
 | 3=>jl b (a+3)
 | _=>0
theorem eH (b:Txt) (a j:Nat):0<=cM b a j∧cM b a j<4294967296:=by
 have h0:=xF b a;have h1:=xF b (a+1);have h2:=xF b (a+2);have h3:=xF b (a+3);unfold cM;split <;> omega
theorem ul {m:Man} (h:manB m=true) (hm:m.ok):cM (bY m) (bE (dg m)).length 0=m.sum:=by
 have e:∀ i,i<4->(bY m)[(bE (dg m)).length+i]?=(dN (iA m))[i]?:=by
  intro i hi;rw[iH,List.getElem?_append_right (by omega)]
  congr 1;omega
 have hs:=xa (iA m);rw[Ef hm] at hs;have e0:=e 0 (by decide)
 have e1:=e 1 (by decide)
 have e2:=e 2 (by decide)
 have e3:=e 3 (by decide)
 rw[Nat.add_zero] at e0;obtain⟨b0,b1,b2,b3,hf⟩:∃ b0 b1 b2 b3,dN (iA m)=[b0,b1,b2,b3]:=⟨_,_,_,_,rfl⟩;rw[hf] at hs e0 e1 e2 e3;simp only[Lj] at hs;unfold cM jl;rw[e0,e1,e2,e3];simp only[List.getElem?_cons_zero,List.getElem?_cons_succ,Option.getD_some];omega
theorem CD (s:Txt) (hs:s.length<=1000000) (hok:∀ m,cJ s=some m->m.ok):∃ Z,call 28 [vs s] []=some (Z,[])∧(∀ m,cJ s=some m->Z=sZ m)∧(cJ s=none->∃ e,e≠0∧Z=jg e):=by
 have q0:=qb s 0 (by decide) (by omega)
 have z0:((0:Nat):Int)=0:=rfl;rw[z0] at q0;have hdm:∀ m,cJ s=some m->dV s 0=(bY m,s.length,0):=fun m h=>by
  have:=dD h;have h2:=BH this.1;rw[this.2] at h2;exact h2
 have hbl:=oZ s 0;obtain⟨⟨b,nx,e⟩,hnx⟩:∃ r,r=dV s 0:=⟨_,rfl⟩;rw[<- hnx] at q0 hdm hbl;simp only[dJ] at q0 hbl;by_cases he:e=0
 ·subst he;have hdb:∀ m,cJ s=some m->b=bY m:=fun m h=>by have:=hdm m h;cases this;rfl
  refine⟨match cJ s with|some m=>sZ m|none=>jg 3,?_,fun m h=>by rw[h],fun h=>⟨3,by decide,by rw[h]⟩⟩
  generalize hZ:(match cJ s with|some m=>sZ m|none=>jg 3)=Z
  have hZn:cJ s=none->Z=jg 3:=fun h=>by rw[<- hZ,h]
  have hZs:∀ m,cJ s=some m->Z=sZ m:=fun m h=>by rw[<- hZ,h]
  clear hZ hdm;apply ae VK rfl;refine bh ?_ rV.eq_1 q0;refine aq (m:=0) (σ:=List Int × Nat) (fun t=>200-t.1.length) (fun t=>t.1.length<=100∧t.2<=b.length∧(∀ v∈t.1,0<=v∧v<9223372036854775808)∧∀ m,cJ s=some m->t.1.length<(dg m).length∧t.1=(dg m).take t.1.length∧t.2=(bE ((dg m).take t.1.length)).length)
   (fun t=>[vs s,V.one (.p 0 0),vs b,V.one (.sl 1 1 0 t.1.length),vi t.2]) (fun t=>[.cells [zI 0,.ns,zI 0,zW 0],.arr 1 (t.1.map eI) 0])
   (fun _=>(Z,[])) ?_ ([],0) ⟨by decide,zP _,fun v hv=>(by cases hv),fun m hm=>⟨by rw[qM];simp,rfl,rfl⟩⟩ _ _ bA
  rintro⟨L1,a1⟩ ⟨h1,h2,h3,h4⟩ R hR;simp only at h1 h2 h3 h4 ⊢;have q1:=fM b a1 (by omega) (by omega)
  have hml:(L1.map eI).length=L1.length:=by simp
  by_cases c1:a1<b.length
  ·by_cases c2:L1.length<100
   ·cases hrd:kA (b.drop a1) 0 0 with
    | some r =>
     obtain⟨v,n⟩:=r;have hv9:=Aa hrd;have hrl:=(fA hrd).2.1;rw[zH] at hrl;rw[hrd] at q1;simp only[jD] at q1;have hmap:L1.map eI++[[.i .i64 (v:Int)]]=(L1++[(v:Int)]).map eI:=by simp[eI]
     have hlen:L1.length+1=(L1++[(v:Int)]).length:=by simp
     have hbd:∀ w∈L1++[(v:Int)],0<=w∧w<9223372036854775808:=by
      intro w hw;rcases zX.1 hw with hw|hw
      ·exact h3 w hw
      ·rw[zV.1 hw];omega
     have hst:∀ m,cJ s=some m->(L1++[(v:Int)]).length<=(dg m).length∧L1++[(v:Int)]=(dg m).take (L1++[(v:Int)]).length∧a1+n=(bE ((dg m).take (L1++[(v:Int)]).length)).length:=by
      intro m hm;obtain⟨p1,p2,p3⟩:=h4 m hm;have hmr:=AK (dD hm).1 L1.length p1;have hin:=Ea (dD hm).1 _ (zN p1);rw[<- hdb m hm,<- p3,hrd] at hmr;have e1:=hmr.1;simp only[Option.some.injEq,Prod.mk.injEq] at e1;rw[<- hlen];refine⟨by omega,?_,?_⟩
      ·rw[zO p1,<- p2];congr 2;omega
      ·rw[hmr.2];omega
     by_cases c3:3<=(L1++[(v:Int)]).length∧(((L1++[(v:Int)]).length:Nat):Int)=(L1++[(v:Int)]).getD 1 0+3
     ·have hT:∀ m,cJ s=some m->L1++[(v:Int)]=dg m∧a1+n=(bE (dg m)).length:=by
       intro m hm;obtain⟨p1,p2,p3⟩:=hst m hm;have e1:(L1++[(v:Int)]).getD 1 0=(m.segs.length:Int):=by
        rw[p2,List.getD_eq_getElem?_getD,List.getElem?_take_of_lt (by omega),KB];rfl
       rw[e1] at c3;have e2:(L1++[(v:Int)]).length=(dg m).length:=by rw[qM];omega
       rw[e2,List.take_length] at p2 p3;exact⟨p2,p3⟩
      obtain⟨Q,hQ⟩:∃ Q,Q=L1++[(v:Int)]:=⟨_,rfl⟩;obtain⟨a,ha⟩:∃ a,a=a1+n:=⟨_,rfl⟩;rw[<- hQ] at hmap hlen hbd c3 hT;rw[<- ha] at hT q1;have hQb:Q.length<=101:=by omega
      have hab:a<=b.length:=by omega
      clear hst hR h4 hQ hrd;have g1:(Q.map eI)[1]?=some [.i .i64 (Q.getD 1 0)]:=by rw[jT Q 1 (by omega),List.getD_eq_getElem?_getD,zE (by omega)];rfl
      have c3a:(3:Int)<=(Q.length:Int):=by omega
      have hgd:=hbd _ (zN (show 1<Q.length by omega))
      have hgd2:0<=Q.getD 1 0∧Q.getD 1 0<=1000:=by omega
      obtain⟨W,hW⟩:∃ W,W=Q.getD 1 0:=⟨_,rfl⟩;rw[<- hW] at g1 c3 hgd2;have c6:¬ (Q.length:Int)<3:=by omega
      have c7:(Q.length:Int)=W+3:=by omega
      by_cases t3:(b.length:Int)-(a:Int)=4
      ·have g0:(Q.map eI)[0]?=some [.i .i64 (Q.headD 0)]:=by rw[jT Q 0 (by omega)];cases Q with|nil=>simp at c3|cons x r=>rfl
       have hQl:Q.length-1<Q.length:=by omega
       have gz:(Q.map eI)[Q.length-1]?=some [.i .i64 (Q.getLastD 0)]:=by
        rw[jT Q _ hQl];rw[List.getLastD_eq_getLast?,List.getLast?_eq_getElem?,zE hQl];rfl
       have ek:((Q.length:Int)-1).toNat=Q.length-1:=by omega
       have htd:List.take (Q.length-1-2) (List.drop 2 (Q.map eI))=((Q.drop 2).take (Q.length-1-2)).map eI:=by rw[List.map_take,List.map_drop]
       obtain⟨qh,hqh⟩:∃ qh,qh=Q.headD 0:=⟨_,rfl⟩;obtain⟨ql,hql⟩:∃ ql,ql=Q.getLastD 0:=⟨_,rfl⟩;rw[<- hqh] at g0;rw[<- hql] at gz;have ek2:Q.length-1-2=Q.length-3:=by omega
       refine cm ?_ hI.eq_1 rV.eq_1 q1 hmap hml hlen c1 c2 c3a c6 (eq_true c7) (And.intro g1 (And.intro (zT t3) (And.intro g0 (And.intro gz ek))));refine aq (m:=0) (σ:=Nat) (fun j=>j) (fun j=>j<=4) (fun j=>[vs s,V.one (.p 0 0),vs b,vi a,V.one (.p 1 0),vi ((j:Int)-1)])
        (fun j=>[.cells [zI 0,.ns,zI 0,zW 0],.cells [zI qh,.sl 2 1 2 (Q.length-1-2),zI ql,zW (cM b a j)],.arr 1 (Q.map eI) 0]) (fun _=>(Z,[])) ?_ 4 (Nat.le_refl _) _ _ bA
       clear q1 g1 g0 gz hmap;intro j hj K hK;have hsb:=eH b a j;rcases(by omega:j=0∨j=1∨j=2∨j=3∨j=4) with rfl|rfl|rfl|rfl|rfl
       ·obtain⟨ac,hac⟩:∃ ac,ac=cM b a 0:=⟨_,rfl⟩;rw[<- hac] at hsb ⊢;have hMe:(iU Q ac).l=[zI qh,.d (.l (((Q.drop 2).take (Q.length-1-2)).map eI)),zI ql,zW ac]:=by rw[hqh,hql];rfl
        have hMo:(iU Q ac).ok:=⟨by simp[iU];omega,hsb⟩
        have g1:=jw (iU Q ac) hMo;rw[hMe] at g1;have bA:∀ m,cJ s=some m->iU Q ac=m:=fun m h=>by
         obtain⟨p1,p2⟩:=hT m h;rw[hac,p2,hdb m h,ul (dD h).1 (hok m h),p1,Cj]
        have hmx:max 0 (2+(Q.length-1-2))<=Q.length:=by omega
        have hle:2+(Q.length-1-2)<=Q.length:=by omega
        by_cases k1:manB (iU Q ac)=true
        ·have hmp:bc (iU Q ac)=(aT (iU Q ac),0):=by unfold bc;rw[if_pos k1]
         rw[hmp] at g1;simp only at g1;by_cases k2:aT (iU Q ac)=s
         ·have hd:cJ s=some (iU Q ac):=by
           have:=pD k1 hMo;rw[k2] at this;exact this
          rw[hZs _ hd];have k3:(aT (iU Q ac) == s)=true:=by simpa using k2
          unfold sZ;rw[hMe];rw[k2] at g1;generalize iU Q ac=MM at *;refine cm ?_ fk.eq_1 rV.eq_1 g1 htd @zM;try simp[trim]
         ·have hd:cJ s=none:=by
           cases hd:cJ s with
           | none=>rfl
           | some m=>exact absurd (by rw[bA m hd];exact(dD hd).2) k2
          rw[hZn hd];have k3:(aT (iU Q ac) == s)=false:=by simpa using k2
          generalize aT (iU Q ac)=TT at *;generalize iU Q ac=MM at *;refine cm ?_ fk.eq_1 rV.eq_1 g1 htd k3 @zM;try simp[trim,jg,f8]
        ·have hmp:bc (iU Q ac)=([],1):=by unfold bc;rw[if_neg k1]
         rw[hmp] at g1;simp only at g1;have hd:cJ s=none:=by
          cases hd:cJ s with
          | none=>rfl
          | some m=>exact absurd (by rw[bA m hd];exact(dD hd).1) k1
         rw[hZn hd];generalize iU Q ac=MM at *;refine cm ?_ fk.eq_1 rV.eq_1 g1 htd @zM;try simp[trim,jg,f8]
       ·have hbi:a<b.length:=by omega
        have gb:b[a]?=some b[a]:=zE hbi;have hu:jl b (a)=((b[a].toNat:Nat):Int):=by unfold jl;rw[gb];rfl
        have hul:=UInt8.toNat_lt b[a];have e1:cM b a 0=cM b a 1*256+jl b (a):=by simp only[cM];try omega
        have hsb2:=eH b a 0;have hei:((a:Int)+0).toNat=a:=by omega
        have hK':=hK 0 (by decide) (by omega)
        rw[e1] at hK' hsb2;rw[hu] at hK' hsb2;generalize b[a]=bx at *;generalize cM b a 1=ac at *;clear e1 hu;refine cm ?_ fk.eq_1 hei gb @zM;exact hK' _ _ bA
       ·have hbi:a+1<b.length:=by omega
        have gb:b[a+1]?=some b[a+1]:=zE hbi;have hu:jl b (a+1)=((b[a+1].toNat:Nat):Int):=by unfold jl;rw[gb];rfl
        have hul:=UInt8.toNat_lt b[a+1];have e1:cM b a 1=cM b a 2*256+jl b (a+1):=by simp only[cM];try omega
        have hsb2:=eH b a 1;have hei:((a:Int)+1).toNat=a+1:=by omega
        have hK':=hK 1 (by decide) (by omega)
        rw[e1] at hK' hsb2;rw[hu] at hK' hsb2;generalize b[a+1]=bx at *;generalize cM b a 2=ac at *;clear e1 hu;refine cm ?_ fk.eq_1 hei gb @zM;exact hK' _ _ bA
       ·have hbi:a+2<b.length:=by omega
        have gb:b[a+2]?=some b[a+2]:=zE hbi;have hu:jl b (a+2)=((b[a+2].toNat:Nat):Int):=by unfold jl;rw[gb];rfl
        have hul:=UInt8.toNat_lt b[a+2];have e1:cM b a 2=cM b a 3*256+jl b (a+2):=by simp only[cM];try omega
        have hsb2:=eH b a 2;have hei:((a:Int)+2).toNat=a+2:=by omega
        have hK':=hK 2 (by decide) (by omega)
        rw[e1] at hK' hsb2;rw[hu] at hK' hsb2;generalize b[a+2]=bx at *;generalize cM b a 3=ac at *;clear e1 hu;refine cm ?_ fk.eq_1 hei gb @zM;exact hK' _ _ bA
       ·have hbi:a+3<b.length:=by omega
        have gb:b[a+3]?=some b[a+3]:=zE hbi;have hu:jl b (a+3)=((b[a+3].toNat:Nat):Int):=by unfold jl;rw[gb];rfl
        have hul:=UInt8.toNat_lt b[a+3];have e1:cM b a 3=cM b a 4*256+jl b (a+3):=by simp only[cM];try omega
        have hsb2:=eH b a 3;have hei:((a:Int)+3).toNat=a+3:=by omega
        have hK':=hK 3 (by decide) (by omega)
        rw[e1] at hK' hsb2;rw[hu] at hK' hsb2;generalize b[a+3]=bx at *;generalize cM b a 4=ac at *;clear e1 hu;refine cm ?_ fk.eq_1 hei gb @zM;exact hK' _ _ bA
      ·have hno:cJ s=none:=by
        cases hd:cJ s with
        | none=>rfl
        | some m =>
         exfalso;obtain⟨p1,p2⟩:=hT m hd;have:=hdb m hd;rw[this,iH,zA,d9,p2] at t3;omega
       rw[hZn hno];refine cm ?_ hI.eq_1 rV.eq_1 q1 hmap hml hlen c1 c2 c3a c6 (eq_true c7) (And.intro g1 (zF t3));try simp[trim,jg,f8]
     ·have hR':=hR (L1++[(v:Int)],a1+n) (by simp;omega) ⟨by simp;omega,by simp only[];omega,hbd,fun m hm=>by
       obtain⟨p1,p2,p3⟩:=hst m hm;refine⟨?_,p2,p3⟩;simp only[];rcases Nat.lt_or_ge (L1++[(v:Int)]).length (dg m).length with h|h
       ·exact h
       ·exfalso;have e2:(L1++[(v:Int)]).length=(dg m).length:=by omega
        apply c3;rw[qM] at e2;refine⟨by omega,?_⟩
        have e1:(L1++[(v:Int)]).getD 1 0=(m.segs.length:Int):=by
         rw[p2,List.getD_eq_getElem?_getD,List.getElem?_take_of_lt (by omega),KB];rfl
        rw[e1,e2];omega⟩
      obtain⟨Q,hQ⟩:∃ Q,Q=L1++[(v:Int)]:=⟨_,rfl⟩;rw[<- hQ] at hmap hlen hbd c3 hR';by_cases c4:3<=Q.length
      ·have c5:¬ ((Q.length:Int)=Q.getD 1 0+3):=fun h=>c3 ⟨c4,h⟩
       have g1:(Q.map eI)[1]?=some [.i .i64 (Q.getD 1 0)]:=by rw[jT Q 1 (by omega),List.getD_eq_getElem?_getD,zE (by omega)];rfl
       have c3a:(3:Int)<=(Q.length:Int):=by omega
       have hgd:=hbd _ (zN (show 1<Q.length by omega))
       have hgd2:Q.getD 1 0=Q[1]:=by rw[List.getD_eq_getElem?_getD,zE (by omega)];rfl
       obtain⟨W,hW⟩:∃ W,W=Q.getD 1 0:=⟨_,rfl⟩;rw[<- hW] at g1 c5 hgd2;by_cases hwr:W+3<9223372036854775808
       ·refine cm ?_ hI.eq_1 q1 hmap hml hlen c1 c2 c3a c5 g1;exact hR' _ _ bA
       ·obtain⟨W3,hW3,hW4⟩:∃ W3:Int,IntKind.i64.wrap (W+3)=W3∧W3<0:=by
         refine⟨_,rfl,?_⟩;rw[IntWalk.i64_left];unfold RowKit.wrap64;omega
        have c5':¬ (Q.length:Int)=W3:=by omega
        refine cm ?_ hI.eq_1 q1 hmap hml hlen c1 c2 c3a hW3 c5' g1;exact hR' _ _ bA
      ·have c4':¬ (3:Int)<=(Q.length:Int):=by omega
       refine cm ?_ hI.eq_1 q1 hmap hml hlen c1 c2 c4';exact hR' _ _ bA
    | none =>
     have hno:cJ s=none:=by
      cases hd:cJ s with
      | none=>rfl
      | some m =>
       exfalso;obtain⟨p1,p2,p3⟩:=h4 m hd;have hmr:=(AK (dD hd).1 L1.length p1).1;rw[<- hdb m hd,<- p3,hrd] at hmr;cases hmr
     rw[hrd] at q1;simp only[jD] at q1;obtain⟨Q,hQ⟩:∃ Q,Q=L1:=⟨_,rfl⟩;obtain⟨a,ha⟩:∃ a,a=a1:=⟨_,rfl⟩;rw[<- hQ] at h1 h3 hml ⊢;rw[<- ha] at h2 ⊢;rw[<- hQ] at c2;rw[<- ha] at c1 hrd q1;have hT:∀ m,cJ s=some m->Q=dg m∧a=(bE (dg m)).length:=fun m h=>by rw[hno] at h;cases h
     have hQb:Q.length<=101:=by omega
     have hab:a<=b.length:=h2;have hbd:=h3;clear hR h4;by_cases t1:Q.length<3
     ·have t1':(Q.length:Int)<3:=by omega
      rw[hZn hno];refine cm ?_ hI.eq_1 rV.eq_1 q1 c1 c2 t1' hml;try simp[trim,jg,f8]
     ·have c6:¬ (Q.length:Int)<3:=by omega
      have g1:(Q.map eI)[1]?=some [.i .i64 (Q.getD 1 0)]:=by rw[jT Q 1 (by omega),List.getD_eq_getElem?_getD,zE (by omega)];rfl
      have hgd:=hbd _ (zN (show 1<Q.length by omega))
      have hgd2:Q.getD 1 0=Q[1]:=by rw[List.getD_eq_getElem?_getD,zE (by omega)];rfl
      obtain⟨W,hW⟩:∃ W,W=Q.getD 1 0:=⟨_,rfl⟩;rw[<- hW] at g1 hgd2;by_cases t2:(Q.length:Int)=W+3
      ·have c3:3<=Q.length∧(Q.length:Int)=W+3:=⟨by omega,t2⟩
       have hgd3:0<=W∧W<=1000:=by omega
       have c6:¬ (Q.length:Int)<3:=by omega
       have c7:(Q.length:Int)=W+3:=by omega
       by_cases t3:(b.length:Int)-(a:Int)=4
       ·have g0:(Q.map eI)[0]?=some [.i .i64 (Q.headD 0)]:=by rw[jT Q 0 (by omega)];cases Q with|nil=>simp at c3|cons x r=>rfl
        have hQl:Q.length-1<Q.length:=by omega
        have gz:(Q.map eI)[Q.length-1]?=some [.i .i64 (Q.getLastD 0)]:=by
         rw[jT Q _ hQl];rw[List.getLastD_eq_getLast?,List.getLast?_eq_getElem?,zE hQl];rfl
        have ek:((Q.length:Int)-1).toNat=Q.length-1:=by omega
        have htd:List.take (Q.length-1-2) (List.drop 2 (Q.map eI))=((Q.drop 2).take (Q.length-1-2)).map eI:=by rw[List.map_take,List.map_drop]
        obtain⟨qh,hqh⟩:∃ qh,qh=Q.headD 0:=⟨_,rfl⟩;obtain⟨ql,hql⟩:∃ ql,ql=Q.getLastD 0:=⟨_,rfl⟩;rw[<- hqh] at g0;rw[<- hql] at gz;have ek2:Q.length-1-2=Q.length-3:=by omega
        refine cm ?_ hI.eq_1 rV.eq_1 q1 c1 c2 hml c6 (eq_true c7) g1 (zT t3) g0 (And.intro gz ek);refine aq (m:=0) (σ:=Nat) (fun j=>j) (fun j=>j<=4) (fun j=>[vs s,V.one (.p 0 0),vs b,vi a,V.one (.p 1 0),vi ((j:Int)-1)])
         (fun j=>[.cells [zI 0,.ns,zI 0,zW 0],.cells [zI qh,.sl 2 1 2 (Q.length-1-2),zI ql,zW (cM b a j)],.arr 1 (Q.map eI) 0]) (fun _=>(Z,[])) ?_ 4 (Nat.le_refl _) _ _ bA
        clear g1 g0 gz;intro j hj K hK;have hsb:=eH b a j;rcases(by omega:j=0∨j=1∨j=2∨j=3∨j=4) with rfl|rfl|rfl|rfl|rfl
        ·obtain⟨ac,hac⟩:∃ ac,ac=cM b a 0:=⟨_,rfl⟩;rw[<- hac] at hsb ⊢;have hMe:(iU Q ac).l=[zI qh,.d (.l (((Q.drop 2).take (Q.length-1-2)).map eI)),zI ql,zW ac]:=by rw[hqh,hql];rfl
         have hMo:(iU Q ac).ok:=⟨by simp[iU];omega,hsb⟩
         have g1:=jw (iU Q ac) hMo;rw[hMe] at g1;have bA:∀ m,cJ s=some m->iU Q ac=m:=fun m h=>by
          obtain⟨p1,p2⟩:=hT m h;rw[hac,p2,hdb m h,ul (dD h).1 (hok m h),p1,Cj]
         have hmx:max 0 (2+(Q.length-1-2))<=Q.length:=by omega
         have hle:2+(Q.length-1-2)<=Q.length:=by omega
         by_cases k1:manB (iU Q ac)=true
         ·have hmp:bc (iU Q ac)=(aT (iU Q ac),0):=by unfold bc;rw[if_pos k1]
          rw[hmp] at g1;simp only at g1;by_cases k2:aT (iU Q ac)=s
          ·have hd:cJ s=some (iU Q ac):=by
            have:=pD k1 hMo;rw[k2] at this;exact this
           rw[hZs _ hd];have k3:(aT (iU Q ac) == s)=true:=by simpa using k2
           unfold sZ;rw[hMe];rw[k2] at g1;generalize iU Q ac=MM at *;refine cm ?_ fk.eq_1 rV.eq_1 g1 htd @zM;try simp[trim]
          ·have hd:cJ s=none:=by
            cases hd:cJ s with
            | none=>rfl
            | some m=>exact absurd (by rw[bA m hd];exact(dD hd).2) k2
           rw[hZn hd];have k3:(aT (iU Q ac) == s)=false:=by simpa using k2
           generalize aT (iU Q ac)=TT at *;generalize iU Q ac=MM at *;refine cm ?_ fk.eq_1 rV.eq_1 g1 htd k3 @zM;try simp[trim,jg,f8]
         ·have hmp:bc (iU Q ac)=([],1):=by unfold bc;rw[if_neg k1]
          rw[hmp] at g1;simp only at g1;have hd:cJ s=none:=by
           cases hd:cJ s with
           | none=>rfl
           | some m=>exact absurd (by rw[bA m hd];exact(dD hd).1) k1
          rw[hZn hd];generalize iU Q ac=MM at *;refine cm ?_ fk.eq_1 rV.eq_1 g1 htd @zM;try simp[trim,jg,f8]
        ·have hbi:a<b.length:=by omega
         have gb:b[a]?=some b[a]:=zE hbi;have hu:jl b (a)=((b[a].toNat:Nat):Int):=by unfold jl;rw[gb];rfl
         have hul:=UInt8.toNat_lt b[a];have e1:cM b a 0=cM b a 1*256+jl b (a):=by simp only[cM];try omega
         have hsb2:=eH b a 0;have hei:((a:Int)+0).toNat=a:=by omega
         have hK':=hK 0 (by decide) (by omega)
         rw[e1] at hK' hsb2;rw[hu] at hK' hsb2;generalize b[a]=bx at *;generalize cM b a 1=ac at *;clear e1 hu;refine cm ?_ fk.eq_1 hei gb @zM;exact hK' _ _ bA
        ·have hbi:a+1<b.length:=by omega
         have gb:b[a+1]?=some b[a+1]:=zE hbi;have hu:jl b (a+1)=((b[a+1].toNat:Nat):Int):=by unfold jl;rw[gb];rfl
         have hul:=UInt8.toNat_lt b[a+1];have e1:cM b a 1=cM b a 2*256+jl b (a+1):=by simp only[cM];try omega
         have hsb2:=eH b a 1;have hei:((a:Int)+1).toNat=a+1:=by omega
         have hK':=hK 1 (by decide) (by omega)
         rw[e1] at hK' hsb2;rw[hu] at hK' hsb2;generalize b[a+1]=bx at *;generalize cM b a 2=ac at *;clear e1 hu;refine cm ?_ fk.eq_1 hei gb @zM;exact hK' _ _ bA
        ·have hbi:a+2<b.length:=by omega
         have gb:b[a+2]?=some b[a+2]:=zE hbi;have hu:jl b (a+2)=((b[a+2].toNat:Nat):Int):=by unfold jl;rw[gb];rfl
         have hul:=UInt8.toNat_lt b[a+2];have e1:cM b a 2=cM b a 3*256+jl b (a+2):=by simp only[cM];try omega
         have hsb2:=eH b a 2;have hei:((a:Int)+2).toNat=a+2:=by omega
         have hK':=hK 2 (by decide) (by omega)
         rw[e1] at hK' hsb2;rw[hu] at hK' hsb2;generalize b[a+2]=bx at *;generalize cM b a 3=ac at *;clear e1 hu;refine cm ?_ fk.eq_1 hei gb @zM;exact hK' _ _ bA
        ·have hbi:a+3<b.length:=by omega
         have gb:b[a+3]?=some b[a+3]:=zE hbi;have hu:jl b (a+3)=((b[a+3].toNat:Nat):Int):=by unfold jl;rw[gb];rfl
         have hul:=UInt8.toNat_lt b[a+3];have e1:cM b a 3=cM b a 4*256+jl b (a+3):=by simp only[cM];try omega
         have hsb2:=eH b a 3;have hei:((a:Int)+3).toNat=a+3:=by omega
         have hK':=hK 3 (by decide) (by omega)
         rw[e1] at hK' hsb2;rw[hu] at hK' hsb2;generalize b[a+3]=bx at *;generalize cM b a 4=ac at *;clear e1 hu;refine cm ?_ fk.eq_1 hei gb @zM;exact hK' _ _ bA
       ·have hno:cJ s=none:=by
         cases hd:cJ s with
         | none=>rfl
         | some m =>
          exfalso;obtain⟨p1,p2⟩:=hT m hd;have:=hdb m hd;rw[this,iH,zA,d9,p2] at t3;omega
        rw[hZn hno];refine cm ?_ hI.eq_1 rV.eq_1 q1 c1 c2 hml c6 (eq_true c7) g1 (zF t3);try simp[trim,jg,f8]
      ·rw[hZn hno];by_cases hwr:W+3<9223372036854775808
       ·refine cm ?_ hI.eq_1 rV.eq_1 q1 c1 c2 c6 t2 g1 hml;try simp[trim,jg,f8]
       ·obtain⟨W3,hW3,hW4⟩:∃ W3:Int,IntKind.i64.wrap (W+3)=W3∧W3<0:=by
         refine⟨_,rfl,?_⟩;rw[IntWalk.i64_left];unfold RowKit.wrap64;omega
        have c5':¬ (Q.length:Int)=W3:=by omega
        refine cm ?_ hI.eq_1 rV.eq_1 q1 c1 c2 c6 hW3 c5' g1 hml;try simp[trim,jg,f8]
   ·have hno:cJ s=none:=by
     cases hd:cJ s with
     | none=>rfl
     | some m =>
      exfalso;obtain⟨p1,p2,p3⟩:=h4 m hd;have:=iE (dD hd).1;rw[qM] at p1;omega
    obtain⟨Q,hQ⟩:∃ Q,Q=L1:=⟨_,rfl⟩;obtain⟨a,ha⟩:∃ a,a=a1:=⟨_,rfl⟩;rw[<- hQ] at h1 h3 hml ⊢;rw[<- ha] at h2 ⊢;rw[<- hQ] at c2;rw[<- ha] at c1;have hT:∀ m,cJ s=some m->Q=dg m∧a=(bE (dg m)).length:=fun m h=>by rw[hno] at h;cases h
    have hQb:Q.length<=101:=by omega
    have hab:a<=b.length:=h2;have hbd:=h3;clear hR h4;by_cases t1:Q.length<3
    ·exfalso;omega
    ·have c6:¬ (Q.length:Int)<3:=by omega
     have g1:(Q.map eI)[1]?=some [.i .i64 (Q.getD 1 0)]:=by rw[jT Q 1 (by omega),List.getD_eq_getElem?_getD,zE (by omega)];rfl
     have hgd:=hbd _ (zN (show 1<Q.length by omega))
     have hgd2:Q.getD 1 0=Q[1]:=by rw[List.getD_eq_getElem?_getD,zE (by omega)];rfl
     obtain⟨W,hW⟩:∃ W,W=Q.getD 1 0:=⟨_,rfl⟩;rw[<- hW] at g1 hgd2;by_cases t2:(Q.length:Int)=W+3
     ·have c3:3<=Q.length∧(Q.length:Int)=W+3:=⟨by omega,t2⟩
      have hgd3:0<=W∧W<=1000:=by omega
      have c6:¬ (Q.length:Int)<3:=by omega
      have c7:(Q.length:Int)=W+3:=by omega
      by_cases t3:(b.length:Int)-(a:Int)=4
      ·have g0:(Q.map eI)[0]?=some [.i .i64 (Q.headD 0)]:=by rw[jT Q 0 (by omega)];cases Q with|nil=>simp at c3|cons x r=>rfl
       have hQl:Q.length-1<Q.length:=by omega
       have gz:(Q.map eI)[Q.length-1]?=some [.i .i64 (Q.getLastD 0)]:=by
        rw[jT Q _ hQl];rw[List.getLastD_eq_getLast?,List.getLast?_eq_getElem?,zE hQl];rfl
       have ek:((Q.length:Int)-1).toNat=Q.length-1:=by omega
       have htd:List.take (Q.length-1-2) (List.drop 2 (Q.map eI))=((Q.drop 2).take (Q.length-1-2)).map eI:=by rw[List.map_take,List.map_drop]
       obtain⟨qh,hqh⟩:∃ qh,qh=Q.headD 0:=⟨_,rfl⟩;obtain⟨ql,hql⟩:∃ ql,ql=Q.getLastD 0:=⟨_,rfl⟩;rw[<- hqh] at g0;rw[<- hql] at gz;have ek2:Q.length-1-2=Q.length-3:=by omega
       refine cm ?_ hI.eq_1 rV.eq_1 c1 c2 hml c6 (eq_true c7) g1 (zT t3) g0 gz ek;refine aq (m:=0) (σ:=Nat) (fun j=>j) (fun j=>j<=4) (fun j=>[vs s,V.one (.p 0 0),vs b,vi a,V.one (.p 1 0),vi ((j:Int)-1)])
        (fun j=>[.cells [zI 0,.ns,zI 0,zW 0],.cells [zI qh,.sl 2 1 2 (Q.length-1-2),zI ql,zW (cM b a j)],.arr 1 (Q.map eI) 0]) (fun _=>(Z,[])) ?_ 4 (Nat.le_refl _) _ _ bA
       clear g1 g0 gz;intro j hj K hK;have hsb:=eH b a j;rcases(by omega:j=0∨j=1∨j=2∨j=3∨j=4) with rfl|rfl|rfl|rfl|rfl
       ·obtain⟨ac,hac⟩:∃ ac,ac=cM b a 0:=⟨_,rfl⟩;rw[<- hac] at hsb ⊢;have hMe:(iU Q ac).l=[zI qh,.d (.l (((Q.drop 2).take (Q.length-1-2)).map eI)),zI ql,zW ac]:=by rw[hqh,hql];rfl
        have hMo:(iU Q ac).ok:=⟨by simp[iU];omega,hsb⟩
        have g1:=jw (iU Q ac) hMo;rw[hMe] at g1;have bA:∀ m,cJ s=some m->iU Q ac=m:=fun m h=>by
         obtain⟨p1,p2⟩:=hT m h;rw[hac,p2,hdb m h,ul (dD h).1 (hok m h),p1,Cj]
        have hmx:max 0 (2+(Q.length-1-2))<=Q.length:=by omega
        have hle:2+(Q.length-1-2)<=Q.length:=by omega
        by_cases k1:manB (iU Q ac)=true
        ·have hmp:bc (iU Q ac)=(aT (iU Q ac),0):=by unfold bc;rw[if_pos k1]
         rw[hmp] at g1;simp only at g1;by_cases k2:aT (iU Q ac)=s
         ·have hd:cJ s=some (iU Q ac):=by
           have:=pD k1 hMo;rw[k2] at this;exact this
          rw[hZs _ hd];have k3:(aT (iU Q ac) == s)=true:=by simpa using k2
          unfold sZ;rw[hMe];rw[k2] at g1;generalize iU Q ac=MM at *;refine cm ?_ fk.eq_1 rV.eq_1 g1 htd @zM;try simp[trim]
         ·have hd:cJ s=none:=by
           cases hd:cJ s with
           | none=>rfl
           | some m=>exact absurd (by rw[bA m hd];exact(dD hd).2) k2
          rw[hZn hd];have k3:(aT (iU Q ac) == s)=false:=by simpa using k2
          generalize aT (iU Q ac)=TT at *;generalize iU Q ac=MM at *;refine cm ?_ fk.eq_1 rV.eq_1 g1 htd k3 @zM;try simp[trim,jg,f8]
        ·have hmp:bc (iU Q ac)=([],1):=by unfold bc;rw[if_neg k1]
         rw[hmp] at g1;simp only at g1;have hd:cJ s=none:=by
          cases hd:cJ s with
          | none=>rfl
          | some m=>exact absurd (by rw[bA m hd];exact(dD hd).1) k1
         rw[hZn hd];generalize iU Q ac=MM at *;refine cm ?_ fk.eq_1 rV.eq_1 g1 htd @zM;try simp[trim,jg,f8]
       ·have hbi:a<b.length:=by omega
        have gb:b[a]?=some b[a]:=zE hbi;have hu:jl b (a)=((b[a].toNat:Nat):Int):=by unfold jl;rw[gb];rfl
        have hul:=UInt8.toNat_lt b[a];have e1:cM b a 0=cM b a 1*256+jl b (a):=by simp only[cM];try omega
        have hsb2:=eH b a 0;have hei:((a:Int)+0).toNat=a:=by omega
        have hK':=hK 0 (by decide) (by omega)
        rw[e1] at hK' hsb2;rw[hu] at hK' hsb2;generalize b[a]=bx at *;generalize cM b a 1=ac at *;clear e1 hu;refine cm ?_ fk.eq_1 hei gb @zM;exact hK' _ _ bA
       ·have hbi:a+1<b.length:=by omega
        have gb:b[a+1]?=some b[a+1]:=zE hbi;have hu:jl b (a+1)=((b[a+1].toNat:Nat):Int):=by unfold jl;rw[gb];rfl
        have hul:=UInt8.toNat_lt b[a+1];have e1:cM b a 1=cM b a 2*256+jl b (a+1):=by simp only[cM];try omega
        have hsb2:=eH b a 1;have hei:((a:Int)+1).toNat=a+1:=by omega
        have hK':=hK 1 (by decide) (by omega)
        rw[e1] at hK' hsb2;rw[hu] at hK' hsb2;generalize b[a+1]=bx at *;generalize cM b a 2=ac at *;clear e1 hu;refine cm ?_ fk.eq_1 hei gb @zM;exact hK' _ _ bA
       ·have hbi:a+2<b.length:=by omega
        have gb:b[a+2]?=some b[a+2]:=zE hbi;have hu:jl b (a+2)=((b[a+2].toNat:Nat):Int):=by unfold jl;rw[gb];rfl
        have hul:=UInt8.toNat_lt b[a+2];have e1:cM b a 2=cM b a 3*256+jl b (a+2):=by simp only[cM];try omega
        have hsb2:=eH b a 2;have hei:((a:Int)+2).toNat=a+2:=by omega
        have hK':=hK 2 (by decide) (by omega)
        rw[e1] at hK' hsb2;rw[hu] at hK' hsb2;generalize b[a+2]=bx at *;generalize cM b a 3=ac at *;clear e1 hu;refine cm ?_ fk.eq_1 hei gb @zM;exact hK' _ _ bA
       ·have hbi:a+3<b.length:=by omega
        have gb:b[a+3]?=some b[a+3]:=zE hbi;have hu:jl b (a+3)=((b[a+3].toNat:Nat):Int):=by unfold jl;rw[gb];rfl
        have hul:=UInt8.toNat_lt b[a+3];have e1:cM b a 3=cM b a 4*256+jl b (a+3):=by simp only[cM];try omega
        have hsb2:=eH b a 3;have hei:((a:Int)+3).toNat=a+3:=by omega
        have hK':=hK 3 (by decide) (by omega)
        rw[e1] at hK' hsb2;rw[hu] at hK' hsb2;generalize b[a+3]=bx at *;generalize cM b a 4=ac at *;clear e1 hu;refine cm ?_ fk.eq_1 hei gb @zM;exact hK' _ _ bA
      ·have hno:cJ s=none:=by
        cases hd:cJ s with
        | none=>rfl
        | some m =>
         exfalso;obtain⟨p1,p2⟩:=hT m hd;have:=hdb m hd;rw[this,iH,zA,d9,p2] at t3;omega
       rw[hZn hno];refine cm ?_ hI.eq_1 rV.eq_1 c1 c2 hml c6 (eq_true c7) g1 (zF t3);try simp[trim,jg,f8]
     ·rw[hZn hno];by_cases hwr:W+3<9223372036854775808
      ·refine cm ?_ hI.eq_1 rV.eq_1 c1 c2 c6 t2 g1 hml;try simp[trim,jg,f8]
      ·obtain⟨W3,hW3,hW4⟩:∃ W3:Int,IntKind.i64.wrap (W+3)=W3∧W3<0:=by
        refine⟨_,rfl,?_⟩;rw[IntWalk.i64_left];unfold RowKit.wrap64;omega
       have c5':¬ (Q.length:Int)=W3:=by omega
       refine cm ?_ hI.eq_1 rV.eq_1 c1 c2 c6 hW3 c5' g1 hml;try simp[trim,jg,f8]
  ·have hno:cJ s=none:=by
    cases hd:cJ s with
    | none=>rfl
    | some m =>
     exfalso;obtain⟨p1,p2,p3⟩:=h4 m hd;have:=OB (m:=m) L1.length (by omega)
     rw[<- p3,<- hdb m hd] at this;omega
   obtain⟨Q,hQ⟩:∃ Q,Q=L1:=⟨_,rfl⟩;obtain⟨a,ha⟩:∃ a,a=a1:=⟨_,rfl⟩;rw[<- hQ] at h1 h3 hml ⊢;rw[<- ha] at h2 ⊢;rw[<- ha] at c1;have hT:∀ m,cJ s=some m->Q=dg m∧a=(bE (dg m)).length:=fun m h=>by rw[hno] at h;cases h
   have hQb:Q.length<=101:=by omega
   have hab:a<=b.length:=h2;have hbd:=h3;clear hR h4;by_cases t1:Q.length<3
   ·have t1':(Q.length:Int)<3:=by omega
    rw[hZn hno];refine cm ?_ hI.eq_1 rV.eq_1 c1 t1' hml;try simp[trim,jg,f8]
   ·have c6:¬ (Q.length:Int)<3:=by omega
    have g1:(Q.map eI)[1]?=some [.i .i64 (Q.getD 1 0)]:=by rw[jT Q 1 (by omega),List.getD_eq_getElem?_getD,zE (by omega)];rfl
    have hgd:=hbd _ (zN (show 1<Q.length by omega))
    have hgd2:Q.getD 1 0=Q[1]:=by rw[List.getD_eq_getElem?_getD,zE (by omega)];rfl
    obtain⟨W,hW⟩:∃ W,W=Q.getD 1 0:=⟨_,rfl⟩;rw[<- hW] at g1 hgd2;by_cases t2:(Q.length:Int)=W+3
    ·have c3:3<=Q.length∧(Q.length:Int)=W+3:=⟨by omega,t2⟩
     have hgd3:0<=W∧W<=1000:=by omega
     have c6:¬ (Q.length:Int)<3:=by omega
     have c7:(Q.length:Int)=W+3:=by omega
     by_cases t3:(b.length:Int)-(a:Int)=4
     ·exfalso;omega
     ·have hno:cJ s=none:=by
       cases hd:cJ s with
       | none=>rfl
       | some m =>
        exfalso;obtain⟨p1,p2⟩:=hT m hd;have:=hdb m hd;rw[this,iH,zA,d9,p2] at t3;omega
      rw[hZn hno];refine cm ?_ hI.eq_1 rV.eq_1 c1 hml c6 (eq_true c7) g1 (zF t3);try simp[trim,jg,f8]
    ·rw[hZn hno];by_cases hwr:W+3<9223372036854775808
     ·refine cm ?_ hI.eq_1 rV.eq_1 c1 c6 t2 g1 hml;try simp[trim,jg,f8]
     ·obtain⟨W3,hW3,hW4⟩:∃ W3:Int,IntKind.i64.wrap (W+3)=W3∧W3<0:=by
       refine⟨_,rfl,?_⟩;rw[IntWalk.i64_left];unfold RowKit.wrap64;omega
      have c5':¬ (Q.length:Int)=W3:=by omega
      refine cm ?_ hI.eq_1 rV.eq_1 c1 c6 hW3 c5' g1 hml;try simp[trim,jg,f8]
 ·refine⟨jg e,?_,fun m h=>absurd (by have:=hdm m h;cases this;rfl) he,fun _=>⟨e,he,rfl⟩⟩
  apply ae VK rfl;refine bh ?_ rV.eq_1 q0 he;try simp[trim,jg,f8]
theorem CX (l:List Pr) (hl:l.length<=1000000):call 19 [vl (l.map Pr.enc),vl (l.map Pr.enc)] []=some (vb true,[]):=by
 apply ae Xg rfl;refine bd ?_ U9.eq_1;refine aq (m:=0) (σ:=Nat) (fun i=>l.length-i) (fun i=>i<=l.length) (fun i=>[vl (l.map Pr.enc),vl (l.map Pr.enc),vi i]) (fun _=>[])
  (fun _=>(vb true,[])) ?_ 0 (zP _) _ _ bA
 intro i h1 R hR;by_cases hi:i<l.length
 ·have g1:(l.map Pr.enc)[i]?=some l[i].enc:=by rw[zG,zE hi];rfl
  have hR':=hR (i+1) (by omega) (by omega)
  generalize l[i]=p at *;have he:=Pr.eqs p p;refine bd ?_ If.eq_1 g1 @Pr.len @Pr.tkL @Pr.tk he;exact hR' _ _ bA
 ·refine bd ?_ If.eq_1 U9.eq_1;try simp[trim]
def eT (n:Txt):List D:=[.s n]
def cR (l:List Fil):List Txt:=l.map Fil.name
theorem CQ (d:Dsk) (hl:d.files.length<=1000000):call 55 [.agg d.l] []=some (vl ((cR d.files).map eT),[]):=by
 have hZ:∃ Z,Z=vl ((cR d.files).map eT):=⟨_,rfl⟩;obtain⟨Z,hZ⟩:=hZ;rw[<- hZ];obtain⟨fl,cp,ar,lf,dn⟩:=d;simp only[Dsk.l] at hl hZ ⊢;apply ae VR rfl;refine bh ?_ RN.eq_1;refine aq (m:=0) (σ:=Nat) (fun i=>fl.length-i) (fun i=>i<=fl.length) (fun i=>[V.one (.p 0 0),V.one (.sl 1 1 0 (fl.take i).length),vi i])
  (fun i=>[.cells [.d (.l (fl.map Fil.enc)),zI cp,zB ar,zI lf,zB dn],.arr 1 ((cR (fl.take i)).map eT) 0]) (fun _=>(Z,[])) ?_ 0 (zP _) _ _ bA
 intro i h1 R hR;by_cases hi:i<fl.length
 ·have hc:(i:Int)<(fl.length:Int):=by omega
  have g1:(fl.map Fil.enc)[i]?=some fl[i].enc:=by rw[zG,zE hi];rfl
  have hR':=hR (i+1) (by omega) (by omega)
  rw[zO hi] at hR';have hlen:((cR (fl.take i)).map eT).length=(fl.take i).length:=by simp[cR]
  have hl2:(fl.take i).length<=1000000:=by simp;omega
  have e2:(cR (fl.take i++[fl[i]])).map eT=(cR (fl.take i)).map eT++[[.s fl[i].name]]:=by unfold cR;rw[List.map_append,List.map_append];rfl
  have e3:(fl.take i++[fl[i]]).length=(fl.take i).length+1:=by rw[zA];rfl
  rw[e2,e3] at hR';generalize (fl.take i).length=n at *;generalize (cR (fl.take i)).map eT=Q at *;generalize fl[i]=f at *;obtain⟨a,b,c⟩:=f;simp only[Fil.enc] at g1;refine bh ?_ Ec.eq_1 (zT hc) g1 hlen;exact hR' _ _ bA
 ·have hc:¬ (i:Int)<(fl.length:Int):=by omega
  have ht:fl.take i=fl:=zL (by omega)
  rw[ht];have htk:List.take fl.length ((cR fl).map eT)=(cR fl).map eT:=zL (by simp[cR])
  have hln:((cR fl).map eT).length=fl.length:=by simp[cR]
  rw[hZ];refine bh ?_ Ec.eq_1 RN.eq_1 (zF hc) htk hln;try simp[trim]
def mM (use:List Txt) (n:Txt):Bool:=use.any fun u=>decide (u=n)
def o7 (use l:List Txt) (s:Dsk × Int):Dsk × Int:=tZ (l.filter fun n => !mM use n) s
theorem BW (use l:List Txt) (n:Txt) (s:Dsk × Int):o7 use (n::l) s=if mM use n=true then o7 use l s else o7 use l (dH n s):=by
 unfold o7;by_cases c:mM use n=true
 ·rw[if_pos c,List.filter_cons_of_neg (by simp[c])]
 ·rw[if_neg c,List.filter_cons_of_pos (by simpa using c),nq]
def bZ (use:List Txt) (d:Dsk):Dsk × Int:=o7 use (cR d.files) (d,0)
theorem sR {k u:Nat} (d:Dsk) (hd:okN k u d) (hk:k<=900000) (hu:u<=900000000000) (use:List Txt) (hul:use.length<=1000000):call 33 [.agg d.l,vl (use.map eT)] []=some (aK (bZ use d),[]):=by
 have q1:=CQ d (Nat.le_trans hd.len (by omega))
 have hnl:(cR d.files).length<=1000000:=by have:=hd.len;simp[cR];omega
 obtain⟨Z,hZ⟩:∃ Z,Z=bZ use d:=⟨_,rfl⟩;rw[<- hZ];unfold bZ at hZ;obtain⟨⟨zfl,zcp,zar,zlf,zdn⟩,ze⟩:=Z;generalize cR d.files=NL at *;simp only[aK,Dsk.l] at q1 ⊢;apply ae VA rfl;obtain⟨dfl,dcp,dar,dlf,ddn⟩:=d;refine bh ?_ Q0.eq_1 q1;refine aq (m:=0) (σ:=Nat × Dsk) (fun t=>NL.length-t.1) (fun t=>t.1<=NL.length∧okN k u t.2∧o7 use (NL.drop t.1) (t.2,0)=(⟨zfl,zcp,zar,zlf,zdn⟩,ze)) (fun t=>[vl (use.map eT),V.one (.p 0 0),V.one (.p 1 0),vl (NL.map eT),vi t.1])
  (fun t=>[.cells [.d (.l (t.2.files.map Fil.enc)),zI t.2.cap,zB t.2.armed,zI t.2.left,zB t.2.down],.cells [.ns,zI 0,zB false,zI 0,zB false]])
  (fun _=>(V.tup [(true,[.d (.l (zfl.map Fil.enc)),zI zcp,zB zar,zI zlf,zB zdn]),(false,[zI ze])],[])) ?_ (0,⟨dfl,dcp,dar,dlf,ddn⟩) ⟨zP _,hd,hZ.symm⟩ _ _ bA
 rintro⟨i,⟨fl,cp,ar,lf,dn⟩⟩ ⟨h1,h2,h3⟩ R hR;simp only at h1 h2 h3 ⊢;by_cases c:i<NL.length
 ·have hc:(i:Int)<(NL.length:Int):=by omega
  have hml:(NL.map eT).length=NL.length:=by simp
  have hul2:(use.map eT).length=use.length:=by simp
  rw[zD c,BW] at h3;have g1:(NL.map eT)[i]?=some [.s NL[i]]:=by rw[zG,zE c];rfl
  generalize NL[i]=n at *;have g2:=jp ⟨fl,cp,ar,lf,dn⟩ (h2.ok (by omega) (by omega)) n
  have kk:=dX (s:=(⟨fl,cp,ar,lf,dn⟩,0)) h2 n;rw[show dH n (⟨fl,cp,ar,lf,dn⟩,0)=ai ⟨fl,cp,ar,lf,dn⟩ (bN fl n) from bD _ _] at kk h3
  simp only at g2;have hRy:=fun h=>hR (i+1,⟨fl,cp,ar,lf,dn⟩) (by simp only[];omega) ⟨by simp only[];omega,h2,h⟩
  have hRn:=fun h=>hR (i+1,(ai ⟨fl,cp,ar,lf,dn⟩ (bN fl n)).1) (by simp only[];omega) ⟨by simp only[];omega,kk,h⟩
  generalize ai ⟨fl,cp,ar,lf,dn⟩ (bN fl n)=q at *;obtain⟨⟨qfl,qcp,qar,qlf,qdn⟩,qe⟩:=q;simp only[aK,Dsk.l] at g2 h3 hRy hRn;have hkf:mM use n=(mM (use.take 0) n || (use.drop 0).any fun u=>decide (u=n)):=by simp[mM]
  refine bh ?_ vQ.eq_1 (zT hc) hml;refine aq (m:=0) (σ:=Nat × Bool) (fun t=>use.length-t.1) (fun t=>t.1<=use.length∧mM use n=(t.2 || (use.drop t.1).any fun u=>decide (u=n))) (fun t=>[vl (use.map eT),V.one (.p 0 0),V.one (.p 1 0),vl (NL.map eT),vi i,vb t.2,vi t.1])
   (fun _=>[.cells [.d (.l (fl.map Fil.enc)),zI cp,zB ar,zI lf,zB dn],.cells [.ns,zI 0,zB false,zI 0,zB false]])
   (fun _=>(V.tup [(true,[.d (.l (zfl.map Fil.enc)),zI zcp,zB zar,zI zlf,zB zdn]),(false,[zI ze])],[])) ?_ (0,false) ⟨zP _,by simp[mM]⟩ _ _ bA
  clear hR hkf;rintro⟨j,kp⟩ ⟨j1,j2⟩ K hK;simp only at j1 j2 ⊢;by_cases cj:j<use.length
  ·have hcj:(j:Int)<(use.length:Int):=by omega
   have g3:(use.map eT)[j]?=some [.s use[j]]:=by rw[zG,zE cj];rfl
   rw[zD cj,List.any_cons] at j2;generalize use[j]=w at *;cases kp with
   | true =>
    have hK':=hK (j+1,true) (by simp only[];omega) ⟨by simp only[];omega,by simpa using j2⟩
    refine cm ?_ sJ.eq_1 (zT hcj) hul2;exact hK' _ _ bA
   | false =>
    by_cases cw:w=n
    ·have hK':=hK (j+1,true) (by simp only[];omega) ⟨by simp only[];omega,by simpa[cw] using j2⟩
     have cwb:(w == n)=true:=by simpa using cw
     refine cm ?_ sJ.eq_1 (zT hcj) hul2 g3 g1 cwb;exact hK' _ _ bA
    ·have hK':=hK (j+1,false) (by simp only[];omega) ⟨by simp only[];omega,by simpa[cw] using j2⟩
     have cwb:(w == n)=false:=by simpa using cw
     refine cm ?_ sJ.eq_1 (zT hcj) hul2 g3 g1 cwb;exact hK' _ _ bA
  ·have hcj:¬ (j:Int)<(use.length:Int):=by omega
   rw[zC (by omega),List.any_nil,Bool.or_false] at j2
   cases kp with
   | true =>
    rw[if_pos j2] at h3;refine cm ?_ sJ.eq_1 vQ.eq_1 (zF hcj) hul2;exact hRy h3 _ _ bA
   | false =>
    rw[if_neg (by rw[j2];simp)] at h3
    by_cases c2:qe=0
    ·subst c2;refine cm ?_ sJ.eq_1 vQ.eq_1 (zF hcj) hul2 g1 g2;exact hRn h3 _ _ bA
    ·have e:o7 use (NL.drop (i+1)) (⟨qfl,qcp,qar,qlf,qdn⟩,qe)=(⟨qfl,qcp,qar,qlf,qdn⟩,qe):=tF _ _ c2;rw[e] at h3;cases h3;refine cm ?_ sJ.eq_1 vQ.eq_1 (zF hcj) hul2 g1 g2 c2;try simp[trim,c2]
 ·have hc:¬ (i:Int)<(NL.length:Int):=by omega
  have hml:(NL.map eT).length=NL.length:=by simp
  rw[zC (by omega)] at h3
  cases h3;refine bh ?_ vQ.eq_1 Q0.eq_1 (zF hc) hml;try simp[trim]
def vW (l:List Fil) (n:Txt) (k:Int):List Fil × Int:=if bS l n=true then(if k<0∨((az l n).1.length:Nat)<k then([],6) else(ou l (au l n) (fun f=>{ f with data:=f.data.take k.toNat,sure:=if k<f.sure then k else f.sure }),0)) else([],7)
theorem wN (d:Dsk) (hd:d.ok) (n:Txt) (k:Int):call 34 [.agg d.l,vs n,vi k] []=some (aK (ai d (vW d.files n k)),[]):=by
 apply ae Xa rfl;have h2:=ft d hd.len hd.srt n;have h4:=bG d hd.left [] 7;have h6:=bG d hd.left [] 6;unfold vW;cases c2:bS d.files n with
 | false =>
  rw[if_neg (by simp)]
  rw[ja c2] at h2;generalize ai d ([],7)=r at *;obtain⟨⟨f2,cp2,ar2,lf2,dn2⟩,e2⟩:=r;obtain⟨fl,cp,ar,lf,dn⟩:=d;simp only[aK,Dsk.l,List.map_nil] at h2 h4 ⊢;refine bh ?_ ST.eq_1 h2 h4;try simp[trim]
 | true =>
  rw[if_pos rfl];rw[gJ c2] at h2;obtain⟨hp,he⟩:=cq c2;have g1:(d.files.map Fil.enc)[au d.files n]?=some d.files[au d.files n].enc:=by simp[hp]
  have hdl:=nP d.files _ hp;have hus:=hd.used;have hrd:(az d.files n).1=d.files[au d.files n].data:=by
   unfold az;rw[zE hp];simp only[if_pos he]
  rw[hrd];have h3:=lK d.files hd.len hd.srt { d.files[au d.files n] with data:=d.files[au d.files n].data.take k.toNat,sure:=if k<d.files[au d.files n].sure then k else d.files[au d.files n].sure }
  have h5:=tI hd.srt { d.files[au d.files n] with data:=d.files[au d.files n].data.take k.toNat,sure:=if k<d.files[au d.files n].sure then k else d.files[au d.files n].sure } (by simp only[he];exact c2)
  rw[h5] at h3;simp only[he] at h3;have hK:=bG d hd.left (d.files.set (au d.files n) { d.files[au d.files n] with data:=d.files[au d.files n].data.take k.toNat,sure:=if k<d.files[au d.files n].sure then k else d.files[au d.files n].sure }) 0
  have hpl:=hd.len;rw[ji hp];generalize au d.files n=p at *;simp only[he] at hK ⊢;generalize d.files[p]=f at *;obtain⟨fn,fd,fs⟩:=f;simp only at he h3 hK hdl ⊢;subst he;by_cases c:k<0∨((fd.length:Nat):Int)<k
  ·rw[if_pos c];generalize ai d ([],6)=r at *;obtain⟨⟨f2,cp2,ar2,lf2,dn2⟩,e2⟩:=r;obtain⟨fl,cp,ar,lf,dn⟩:=d;simp only[aK,Dsk.l,List.map_nil,Fil.enc] at h2 h6 g1 hp hpl ⊢;rcases c with c|c
   ·refine bh ?_ ST.eq_1 h2 g1 (zT c) h6;try simp[trim]
   ·have c0:¬ k<0:=by omega
    refine bh ?_ ST.eq_1 h2 g1 (zF c0) (zT c) h6;try simp[trim]
  ·rw[if_neg c];simp only[not_or] at c;have c0:0<=k:=by omega
   have c1:k<=(fd.length:Int):=by omega
   have hkt:k.toNat<=fd.length:=by omega
   obtain⟨fx,hfx⟩:∃ fx,fd.take k.toNat=fx:=⟨_,rfl⟩;obtain⟨fm_,hfm⟩:∃ fm_:Int,(if k<fs then k else fs)=fm_:=⟨_,rfl⟩
   rw[hfx,hfm] at h3 hK ⊢;generalize d.files.set p ⟨fn,fx,fm_⟩=q at *;generalize ai d (q,0)=r at *;obtain⟨⟨f2,cp2,ar2,lf2,dn2⟩,e2⟩:=r;obtain⟨fl,cp,ar,lf,dn⟩:=d;have c1':¬ (fd.length:Int)<k:=by omega
   have c0':¬ k<0:=by omega
   simp only[aK,Dsk.l,Fil.enc,List.map_cons,List.map_nil] at h2 h3 hK g1 hp hpl ⊢;refine bh ?_ ST.eq_1 h2 g1 (zF c0') (zF c1') hfx hfm h3 hK;try simp[trim]
def iF (d:Dsk) (b:Int):Seg × Int:=(⟨b,(cD (az d.files (fileN b)).1 b).1.length,(cD (az d.files (fileN b)).1 b).2.1⟩,(cD (az d.files (fileN b)).1 b).2.2)
def gH (d:Dsk):List Int->Option (List Seg)
 | []=>some []
 | b::r=>if(az d.files (fileN b)).2≠0 then none else match r with
  | []=>some [(iF d b).1]
  | c::_=>if(iF d b).2≠0∨b+(iF d b).1.n≠c then none else(gH d r).map ((iF d b).1 :: ·)
def nA (gs:List Seg):Int:=(gs.getLastD ⟨0,0,0⟩).size
def oA:Option (List Seg)->V
 | some gs=>.tup [(false,[.d (.l (gs.map Seg.enc))]),(false,[.d (.i .i64 (nA gs))]),(false,[.d (.b true)])]
 | none=>.tup [(false,[.d (.l [])]),(false,[.d (.i .i64 0)]),(false,[.d (.b false)])]
def xt (d:Dsk) (out:List Seg) (r:List Int):Option (List Seg):=(gH d r).map (out ++ ·)
theorem km (d:Dsk) (b:Int) (r:List Int):gH d (b::r)=if(az d.files (fileN b)).2≠0 then none else match r with
  | []=>some [(iF d b).1]
  | c::_=>if(iF d b).2≠0∨b+(iF d b).1.n≠c then none else(gH d r).map ((iF d b).1 :: ·):=by cases r <;> simp only[gH]
theorem C6 (l:List Seg) (g:Seg):nA (l++[g])=g.size:=by unfold nA;rw[List.getLastD_concat]
theorem Cq {k u:Nat} (d:Dsk) (hd:okN k u d) (hk:k<=900000) (hu:u<=1000000) (m:Man) (hm:m.segs.length<=64) (hb:∀ b∈m.segs,0<=b∧b<=1099511627776):call 31 [.agg d.l,.agg m.l] []=some (oA (gH d m.segs),[]):=by
 have hrd:=fun n=>gv d (Nat.le_trans hd.len (by omega)) hd.srt n
 obtain⟨Z,hZ⟩:∃ Z,Z=gH d m.segs:=⟨_,rfl⟩;rw[<- hZ];obtain⟨ver,segs,size,sum⟩:=m;simp only at hm hb hZ;have hml:(⟨ver,segs,size,sum⟩:Man).l=[zI ver,.d (.l (segs.map eI)),zI size,zW sum]:=rfl;have hdl:d.l=[.d (.l (d.files.map Fil.enc)),zI d.cap,zB d.armed,zI d.left,zB d.down]:=rfl;rw[hml,hdl];rw[hdl] at hrd;have hlm:(segs.map eI).length=segs.length:=by simp
 apply ae We rfl;refine bh ?_ T1.eq_1;refine aq (m:=0) (σ:=Nat × List Seg × Int) (fun t=>segs.length-t.1) (fun t=>t.1<=segs.length∧t.2.1.length=t.1∧t.2.2=nA t.2.1∧Z=xt d t.2.1 (segs.drop t.1)) (fun t=>[V.one (.p 0 0),V.one (.p 1 0),V.one (.sl 2 3 0 t.2.1.length),vi t.2.2,vi t.1])
  (fun t=>[.cells [.d (.l (d.files.map Fil.enc)),zI d.cap,zB d.armed,zI d.left,zB d.down],.cells [zI ver,.d (.l (segs.map eI)),zI size,zW sum],.arr 3 (t.2.1.map Seg.enc) 0])
  (fun _=>(oA Z,[])) ?_ (0,[],0) ⟨zP _,rfl,rfl,by rw[hZ];simp[xt]⟩ _ _ bA
 rintro⟨i,out,wh⟩ ⟨h1,h2,h3,h4⟩ R hR;simp only at h1 h2 h3 h4 ⊢;have hol:(out.map Seg.enc).length=out.length:=by simp
 by_cases c:i<segs.length
 ·have hc:(i:Int)<(segs.length:Int):=by omega
  have g1:(segs.map eI)[i]?=some [.i .i64 segs[i]]:=by rw[zG,zE c];rfl
  have hbi:=hb _ (zN c);have q1:=iw hbi;have q2:=hrd (fileN segs[i]);have q3:=pM (az d.files (fileN segs[i])).1 (Nat.le_trans (de _ _) (Nat.le_trans hd.used hu)) segs[i] (by omega)
  have hsl:(cD (az d.files (fileN segs[i])).1 segs[i]).1.length<=1000000:=Nat.le_trans (n8 _ _) (Nat.le_trans (de _ _) (Nat.le_trans hd.used hu));have hR':=hR (i+1,out++[(iF d segs[i]).1],(iF d segs[i]).1.size) (by simp only[];omega)
  rw[zD c] at h4;unfold xt at h4;rw[km] at h4;have hsn:(out++[(iF d segs[i]).1]).map Seg.enc=out.map Seg.enc++[[.i .i64 segs[i],.i .i64 (((cD (az d.files (fileN segs[i])).1 segs[i]).1.length:Nat):Int),.i .i64 (((cD (az d.files (fileN segs[i])).1 segs[i]).2.1:Nat):Int)]]:=by
   rw[List.map_append];rfl
  have hsz:(iF d segs[i]).1.size=(((cD (az d.files (fileN segs[i])).1 segs[i]).2.1:Nat):Int):=rfl;have hsN:(iF d segs[i]).1.n=(((cD (az d.files (fileN segs[i])).1 segs[i]).1.length:Nat):Int):=rfl;have hse:(iF d segs[i]).2=(cD (az d.files (fileN segs[i])).1 segs[i]).2.2:=rfl;have hsl2:(out++[(iF d segs[i]).1]).length=out.length+1:=by rw[zA];rfl
  have hwn:=C6 out (iF d segs[i]).1;have hrl:=de d.files (fileN segs[i]);unfold i5 at q3;by_cases c1:(az d.files (fileN segs[i])).2=0
  ·rw[if_neg (by simp[c1])] at h4
   by_cases c2:i+1<segs.length
   ·have hc2:(i:Int)+1<(segs.length:Int):=by omega
    have g2:(segs.map eI)[i+1]?=some [.i .i64 segs[i+1]]:=by rw[zG,zE c2];rfl
    have ei:((i:Int)+1).toNat=i+1:=by omega
    rw[zD c2] at h4;simp only at h4;by_cases c3:(iF d segs[i]).2≠0∨segs[i]+(iF d segs[i]).1.n≠segs[i+1]
    ·rw[if_pos c3] at h4;simp only[Option.map_none] at h4;rw[h4];rw[hse,hsN] at c3;clear hR hR' hsn hsz hsN hse hwn h4;generalize hrf:az d.files (fileN segs[i])=rf at *;generalize fileN segs[i]=fn at *;generalize segs[i+1]=b2 at *;generalize segs[i]=b at *;generalize hsc:cD rf.1 b=sc at *;obtain⟨sl,sa,se⟩:=sc;simp only at *;by_cases c4:se=0
     ·have c5:¬ (b+(sl.length:Int)=b2):=by
       rcases c3 with c3|c3
       ·exact absurd c4 c3
       ·exact c3
      subst c4;refine bh ?_ uY.eq_1 (zT hc) hlm g1 q1 q2 c1 q3 (zT hc2) ei g2 (And.intro c5 @zM);try simp[trim,oA]
     ·refine bh ?_ uY.eq_1 (zT hc) hlm g1 q1 q2 c1 q3 (zT hc2) c4 @zM;try simp[trim,oA]
    ·rw[if_neg c3] at h4;simp only[not_or,Decidable.not_not] at c3;have hK:=hR' ⟨by simp only[];omega,by simp only[];rw[hsl2];omega,by simp only[];rw[hwn],by
      simp only[];rw[h4,zD c2];unfold xt;rw[Option.map_map];congr 1
      funext x
      simp⟩
     rw[hse,hsN] at c3;simp only[hsn,hsl2,hsz] at hK;clear hR hR' hsn hsz hsN hse hwn h4 hsl2;generalize hrf:az d.files (fileN segs[i])=rf at *;generalize fileN segs[i]=fn at *;generalize segs[i+1]=b2 at *;generalize segs[i]=b at *;generalize hsc:cD rf.1 b=sc at *;obtain⟨sl,sa,se⟩:=sc;simp only at *;obtain⟨c4,c5⟩:=c3;subst c4;refine bh ?_ uY.eq_1 (zT hc) hlm g1 q1 q2 c1 q3 (zT hc2) ei g2 (And.intro (eq_true c5) (And.intro hol @zM));exact hK _ _ bA
   ·have hc2:¬ (i:Int)+1<(segs.length:Int):=by omega
    have hdn:segs.drop (i+1)=[]:=zC (by omega)
    rw[hdn] at h4;simp only[Option.map_some] at h4;have hK:=hR' ⟨by simp only[];omega,by simp only[];rw[hsl2];omega,by simp only[];rw[hwn],by
     simp only[];rw[h4,hdn];simp[xt,gH]⟩
    simp only[hsn,hsl2,hsz] at hK;clear hR hR' hsn hsz hsN hse hwn h4 hsl2;generalize hrf:az d.files (fileN segs[i])=rf at *;generalize fileN segs[i]=fn at *;generalize segs[i]=b at *;generalize hsc:cD rf.1 b=sc at *;obtain⟨sl,sa,se⟩:=sc;simp only at *;refine bh ?_ uY.eq_1 (zT hc) hlm g1 q1 q2 c1 q3 (zF hc2) hol @zM;exact hK _ _ bA
  ·rw[if_pos c1] at h4;simp only[Option.map_none] at h4;rw[h4];clear hR hR' hsn hsz hsN hse hwn h4;generalize hrf:az d.files (fileN segs[i])=rf at *;refine bh ?_ uY.eq_1 (zT hc) hlm g1 q1 q2 c1 @zM;try simp[trim,oA]
 ·have hc:¬ (i:Int)<(segs.length:Int):=by omega
  rw[zC (by omega)] at h4
  have e:Z=some out:=by rw[h4];simp[xt,gH]
  rw[e];have htk:List.take out.length (out.map Seg.enc)=out.map Seg.enc:=zL (by simp)
  rw[h3];refine bh ?_ uY.eq_1 T1.eq_1 (zF hc) hlm htk hol @zM;try simp[trim,oA]
def gX (d:Dsk):Sto:=⟨d,0,[],0,0,0,0⟩
def xJ (d:Dsk):Sto × Int:=if(bZ [] d).2≠0 then(gX (bZ [] d).1,(bZ [] d).2) else aH (bZ [] d).1
def fC (m:Man):List Txt:=[109]::(if 0<m.segs.headD 0 then[aC (m.segs.headD 0)] else[])
def dM (m:Man):List Txt:=fC m++m.segs.map fileN
def rZ (d:Dsk) (m:Man):Bool:=decide (¬ 0<m.segs.headD 0) || (decide ((az d.files (aC (m.segs.headD 0))).2=0) && (decide (((az d.files (aC (m.segs.headD 0))).1.length:Int)=m.size) && decide (cE (az d.files (aC (m.segs.headD 0))).1=m.sum)))
theorem iK {d:Dsk} {m:Man}:rZ d m=true↔(0<m.segs.headD 0->(az d.files (aC (m.segs.headD 0))).2=0∧((az d.files (aC (m.segs.headD 0))).1.length:Int)=m.size∧cE (az d.files (aC (m.segs.headD 0))).1=m.sum):=by
 unfold rZ;generalize m.segs.headD 0=h;by_cases c:0<h
 ·simp only[c,not_true,decide_false,Bool.false_or,Bool.and_eq_true,decide_eq_true_eq,forall_const]
 ·simp[c]
def ig (d:Dsk) (g:Seg):Dsk × Int :=
 fi (fileN g.base) (if g.size<((az d.files (fileN g.base)).1.length:Nat) then ai d (vW d.files (fileN g.base) g.size) else(d,0))
def Ed (d:Dsk) (m:Man) (gs:List Seg):Sto × Int :=
 if(bZ (dM m) d).2≠0 then(gX (bZ (dM m) d).1,(bZ (dM m) d).2) else
  if(ig (bZ (dM m) d).1 (gs.getLastD ⟨0,0,0⟩)).2≠0 then(gX (ig (bZ (dM m) d).1 (gs.getLastD ⟨0,0,0⟩)).1,(ig (bZ (dM m) d).1 (gs.getLastD ⟨0,0,0⟩)).2) else
   (⟨(ig (bZ (dM m) d).1 (gs.getLastD ⟨0,0,0⟩)).1,m.ver,gs,(gs.getLastD ⟨0,0,0⟩).base+(gs.getLastD ⟨0,0,0⟩).n,(gs.getLastD ⟨0,0,0⟩).base+(gs.getLastD ⟨0,0,0⟩).n,m.size,m.sum⟩,0)
def Bf (d:Dsk) (m:Man):Sto × Int:=if rZ d m=true then(match gH d m.segs with|some gs=>Ed d m gs|none=>(gX d,3)) else(gX d,3)
def cN (d:Dsk):Sto × Int :=
 if d.down=true then(gX d,10) else if(az d.files [109]).2≠0 then xJ d else match cJ (az d.files [109]).1 with
  | some m=>Bf d m
  | none=>(gX d,3)
theorem Fh {k u:Nat}:∀ (l:List Txt) (s:Dsk × Int),okN k u s.1->okN k u (tZ l s).1
 | [],s,h=>h
 | n::l,s,h=>Fh l _ (dX h n)
theorem vE {k u:Nat} {d:Dsk} (h:okN k u d) (use:List Txt):okN k u (bZ use d).1:=Fh _ _ h
theorem BS {k u:Nat} (d:Dsk) (hd:okN k u d) (hk:k<=700000) (hu:u<=700000000000):call 27 [.agg d.l] []=some (cf (xJ d),[]):=by
 have q1:=sR d hd (by omega) (by omega) [] (by decide)
 have k1:=vE hd [];unfold xJ;generalize bZ [] d=w at *;have q2:=w7 w.1 k1 (by omega) (by omega)
 have hcell:∀ s:Sto,s.l=[.d (.l (s.disk.files.map Fil.enc)),zI s.disk.cap,zB s.disk.armed,zI s.disk.left,zB s.disk.down,zI s.ver,.d (.l (s.segs.map Seg.enc)),zI s.next,zI s.sure,zI s.size,zW s.sum]:=fun _=>rfl
 obtain⟨⟨fl,cp,ar,lf,dn⟩,we⟩:=w;obtain⟨fl0,cp0,ar0,lf0,dn0⟩:=d;simp only[aK,Dsk.l,cf,hcell,List.map_nil] at q1 q2 ⊢;apply ae VO rfl;by_cases c:we=0
 ·subst c;rw[if_neg (by simp)]
  refine bh ?_ Tn.eq_1 q1 q2;try simp[trim]
 ·rw[if_pos c];refine bh ?_ Tn.eq_1 q1 c;try simp[trim,gX,c]
theorem xO {k u:Nat} {d:Dsk} (h:okN k u d) (g:Seg):okN k u (ai d (vW d.files (fileN g.base) g.size)).1:=by
 refine qU h fun h0=>?_
 unfold vW at h0 ⊢;split at h0
 ·rename_i hh;rw[if_pos hh];split at h0
  ·cases h0
  ·rename_i hc;rw[if_neg hc];obtain⟨hp,he⟩:=cq hh;refine⟨by rw[yk];exact h.len,jK (nV _ _ _ (fun _=>rfl)) h.srt,?_⟩
   simp only[ji hp];have hu:=pF d.files _ hp { d.files[au d.files (fileN g.base)] with data:=d.files[au d.files (fileN g.base)].data.take g.size.toNat,sure:=if g.size<d.files[au d.files (fileN g.base)].sure then g.size else d.files[au d.files (fileN g.base)].sure }
   have:=h.used;simp only[zQ] at hu;omega
 ·cases h0
theorem xS {k u:Nat} {d:Dsk} (h:okN k u d) (g:Seg):okN k u (ig d g).1:=by
 unfold ig;refine lw ?_ _;split
 ·exact xO h g
 ·exact h
theorem Ng {l:List Int} (h:1<=l.length):(l.map eI)[0]?=some [.i .i64 (l.headD 0)]:=by
 cases l with
 | nil=>simp at h
 | cons a r=>rfl
theorem xj:∀ (d:Dsk) (l:List Int) (gs:List Seg),gH d l=some gs->gs.length=l.length
 | d,[],gs,h=>by simp only[gH] at h;cases h;rfl
 | d,b::r,gs,h=>by
  rw[km] at h;split at h
  ·cases h
  ·cases r with
   | nil=>simp only[Option.some.injEq] at h;subst h;rfl
   | cons c r =>
    simp only at h;split at h
    ·cases h
    ·obtain⟨gs',h1,h2⟩:=Option.map_eq_some_iff.1 h;subst h2;rw[List.length_cons,xj d (c::r) gs' h1];rfl
theorem Ag {k u:Nat} {d:Dsk} (hd:okN k u d):∀ (l:List Int) (gs:List Seg),gH d l=some gs->∀ g∈gs,g.base∈l∧(0<=g.n∧g.n<=u)∧(0<=g.size)
 | [],gs,h=>by simp only[gH] at h;cases h;simp
 | b::r,gs,h=>by
  have hone:b∈b::r∧(0<=(iF d b).1.n∧(iF d b).1.n<=u)∧0<=(iF d b).1.size:=by
   have:=Nat.le_trans (n8 (az d.files (fileN b)).1 b) (Nat.le_trans (de _ _) hd.used);refine⟨by simp,⟨?_,?_⟩,?_⟩
   ·show 0<=((_:Nat):Int);omega
   ·show((_:Nat):Int)<=_;omega
   ·show 0<=((_:Nat):Int);omega
  rw[km] at h;split at h
  ·cases h
  ·cases r with
   | nil=>simp only[Option.some.injEq] at h;subst h;intro g hg;rw[List.mem_singleton.1 hg];exact hone
   | cons c r =>
    simp only at h;split at h
    ·cases h
    ·obtain⟨gs',h1,h2⟩:=Option.map_eq_some_iff.1 h;subst h2;intro g hg;rcases List.mem_cons.1 hg with rfl|hg
     ·exact hone
     ·have:=Ag hd (c::r) gs' h1 g hg;exact⟨List.mem_cons_of_mem _ this.1,this.2⟩
theorem uB {k u:Nat} (d:Dsk) (hd:okN k u d) (hk:k<=700000) (hu:u<=1000000) (hdec:∀ m,cJ (az d.files [109]).1=some m->m.ok):call 10 [.agg d.l] []=some (cf (cN d),[]):=by
 have hrd:=fun n=>gv d (Nat.le_trans hd.len (by omega)) hd.srt n
 have hcell:∀ s:Sto,s.l=[.d (.l (s.disk.files.map Fil.enc)),zI s.disk.cap,zB s.disk.armed,zI s.disk.left,zB s.disk.down,zI s.ver,.d (.l (s.segs.map Seg.enc)),zI s.next,zI s.sure,zI s.size,zW s.sum]:=fun _=>rfl
 have hdl:∀ d:Dsk,d.l=([.d (.l (d.files.map Fil.enc)),zI d.cap,zB d.armed,zI d.left,zB d.down]:List L):=fun _=>rfl
 have hds:∀ d:Dsk,[.d (.l ((gX d).disk.files.map Fil.enc)),.d (.i .i64 (gX d).disk.cap),.d (.b (gX d).disk.armed),.d (.i .i64 (gX d).disk.left),.d (.b (gX d).disk.down),.d (.i .i64 (gX d).ver),.d (.l ((gX d).segs.map Seg.enc)),.d (.i .i64 (gX d).next),.d (.i .i64 (gX d).sure),.d (.i .i64 (gX d).size),.d (.i .u32 (gX d).sum)]=([.d (.l (d.files.map Fil.enc)),zI d.cap,zB d.armed,zI d.left,zB d.down,zI 0,.d (.l []),zI 0,zI 0,zI 0,zW 0]:List L):=fun _=>rfl
 unfold cN;apply ae VH rfl;by_cases c0:d.down=true
 ·rw[if_pos c0];simp only[cf,hcell,hds,hdl] at hrd ⊢;rw[c0];refine bh ?_ tG.eq_1;try simp[trim]
 ·rw[if_neg c0];have c0':d.down=false:=by simpa using c0
  have q1:=hrd [109];by_cases c1:(az d.files [109]).2=0
  ·rw[if_neg (by simp[c1])]
   have hrl:=de d.files [109];have hdu:=hd.used;obtain⟨Z,q2,hq2,hq3⟩:=CD (az d.files [109]).1 (by omega) hdec
   cases hdm:cJ (az d.files [109]).1 with
   | none =>
    obtain⟨e,he,rfl⟩:=hq3 hdm;unfold jg f8 at q2;generalize az d.files [109]=rf at *;simp only[cf,hcell,hds,hdl] at q1 ⊢;rw[c0'] at q1 ⊢;refine bh ?_ tG.eq_1 q1 c1 q2 he;try simp[trim]
   | some m =>
    have hZ:=hq2 m hdm;subst hZ;have hmb:=iE (dD hdm).1;have hmi:=ke _ _ hmb.2.2.1;have hmo:=hdec m hdm;have hne:1<=m.segs.length:=hmb.2.1.1;have g0:=Ng hne;have hb0:∀ b∈m.segs,0<=b∧b<=1099511627776:=fun b hb=>by have:=hmi b hb;omega
    have hh:0<=m.segs.headD 0∧m.segs.headD 0<=1099511627776:=by
     cases hs:m.segs with
     | nil=>rw[hs] at hne;simp at hne
     | cons b r=>rw[hs] at hb0;exact hb0 b (by simp)
    have q3:=wF hh;have q4:=hrd (aC (m.segs.headD 0));have hr4:=de d.files (aC (m.segs.headD 0));have q5:=pf (az d.files (aC (m.segs.headD 0))).1 (by omega)
    have q6:=Cq d hd (by omega) hu m hmb.2.1.2 hb0
    have hgl:=xj d m.segs;have hgb:=Ag hd m.segs;have q7:=sR d hd (by omega) (by omega) (dM m) (by unfold dM fC;split <;> simp <;> omega)
    have k7:=vE hd (dM m);have hlm:(m.segs.map eI).length=m.segs.length:=by simp
    have hml:m.l=([zI m.ver,.d (.l (m.segs.map eI)),zI m.size,zW m.sum]:List L):=rfl;obtain⟨Z,hZ⟩:∃ Z,Z=Bf d m:=⟨_,rfl⟩;show _=some (cf (Bf d m),[]);rw[<- hZ];unfold Bf at hZ;unfold sZ at q2;have hsn:(cE (az d.files (aC (m.segs.headD 0))).1)=(((cr 0#32 (az d.files (aC (m.segs.headD 0))).1).toNat:Nat):Int):=rfl;by_cases c2:0<m.segs.headD 0
    ·by_cases c3:(az d.files (aC (m.segs.headD 0))).2=0
     ·by_cases c4:((az d.files (aC (m.segs.headD 0))).1.length:Int)=m.size
      ·by_cases c5:cE (az d.files (aC (m.segs.headD 0))).1=m.sum
       ·rw[if_pos (iK.2 fun _=>⟨c3,c4,c5⟩)] at hZ
        have hU:fC m=[[109],aC (m.segs.headD 0)]:=by unfold fC;rw[if_pos c2]
        rw[hsn] at c5;rw[hml] at q2 q6;simp only[hdl] at q1 q4 q6 q7 ⊢;rw[c0'] at q1 q4 q6 q7 ⊢;obtain⟨cc,hcc⟩:∃ cc:Int,(((cr 0#32 (az d.files (aC (m.segs.headD 0))).1).toNat:Nat):Int)=cc:=⟨_,rfl⟩;rw[hcc] at q5 c5;cases hsg:gH d m.segs with
        | none =>
         rw[hsg] at hZ q6;simp only at hZ;subst hZ;unfold oA at q6;simp only[cf,hcell,hds];refine bh ?_ tG.eq_1 q1 c1 q2 g0 (zT c2) q3 q4 c3 c4 q5 (And.intro c5 q6);try simp[trim,c0']
        | some gs =>
         rw[hsg] at hZ q6;simp only at hZ;replace hgl:=hgl gs hsg
         replace hgb:=hgb gs hsg
         simp only[oA] at q6;refine bh ?_ tG.eq_1 q1 c1 q2 g0 (zT c2) q3 q4 c3 c4 q5 (And.intro c5 q6);refine aq (m:=0) (σ:=Nat) (fun i=>m.segs.length-i) (fun i=>i<=m.segs.length) (fun i=>[V.one (.p 0 0),V.one (.p 1 0),V.one (.p 2 0),V.one (.sl 3 1 0 (fC m++(m.segs.take i).map fileN).length),vl (gs.map Seg.enc),vi (nA gs),vi i])
          (fun i=>[.cells [.d (.l (d.files.map Fil.enc)),zI d.cap,zB d.armed,zI d.left,zB false],.cells [.ns,zI 0,zB false,zI 0,zB false,zI 0,.ns,zI 0,zI 0,zI 0,zW 0],.cells [zI m.ver,.d (.l (m.segs.map eI)),zI m.size,zW m.sum],.arr 1 ((fC m++(m.segs.take i).map fileN).map eT) 0])
          (fun _=>(cf Z,[])) ?_ 0 (zP _) _ _ (by rw[hU];exact bA)
         intro i h1 R hR;have hul:(fC m).length<=2:=by unfold fC;split <;> simp
         clear hU;by_cases hi:i<m.segs.length
         ·have hc:(i:Int)<(m.segs.length:Int):=by omega
          have g1:(m.segs.map eI)[i]?=some [.i .i64 m.segs[i]]:=by rw[zG,zE hi];rfl
          have qn:=iw (hb0 _ (zN hi));have hR':=hR (i+1) (by omega) (by omega)
          rw[zO hi] at hR';have e2:(fC m++(m.segs.take i++[m.segs[i]]).map fileN).map eT=(fC m++(m.segs.take i).map fileN).map eT++[[.s (fileN m.segs[i])]]:=by
           rw[List.map_append,List.map_append,List.map_append];simp[eT]
          have e3:(fC m++(m.segs.take i++[m.segs[i]]).map fileN).length=(fC m++(m.segs.take i).map fileN).length+1:=by simp;omega
          have hlen:((fC m++(m.segs.take i).map fileN).map eT).length=(fC m++(m.segs.take i).map fileN).length:=by simp
          have hl2:(fC m++(m.segs.take i).map fileN).length<=66:=by simp;omega
          rw[e2,e3] at hR';generalize (fC m++(m.segs.take i).map fileN).length=n at *;generalize (fC m++(m.segs.take i).map fileN).map eT=Q at *;refine bh ?_ jX.eq_1 (zT hc) hlm g1 qn hlen;exact hR' _ _ bA
         ·have hc:¬ (i:Int)<(m.segs.length:Int):=by omega
          have ht:m.segs.take i=m.segs:=zL (by omega)
          rw[ht];have hun:fC m++m.segs.map fileN=dM m:=rfl;rw[hun];have htk:List.take (dM m).length ((dM m).map eT)=(dM m).map eT:=zL (by simp)
          have hln:((dM m).map eT).length=(dM m).length:=by simp
          have hnl:(dM m).length<=66:=by unfold dM;simp;omega
          have hgm:gs≠[]:=by intro h;rw[h] at hgl;simp at hgl;omega
          have hgn:(gs.map Seg.enc).length=gs.length:=by simp
          have gl:(gs.map Seg.enc)[gs.length-1]?=some (gs.getLastD ⟨0,0,0⟩).enc:=by
           rw[zG,<- List.getLast?_eq_getElem?,List.getLastD_eq_getLast?,List.getLast?_eq_some_getLast hgm];rfl
          have ei:((gs.length:Int)-1).toNat=gs.length-1:=by omega
          have hgp:1<=gs.length:=by omega
          have hgq:gs.length<=64:=by omega
          have hwh:nA gs=(gs.getLastD ⟨0,0,0⟩).size:=rfl;have hgb':=hgb (gs.getLastD ⟨0,0,0⟩) (by rw[List.getLastD_eq_getLast?,List.getLast?_eq_some_getLast hgm];exact List.getLast_mem hgm)
          unfold Ed at hZ;rw[hwh];generalize gs.getLastD ⟨0,0,0⟩=g at *;clear hgb hwh hgm hun hR ht;have hg0:=hb0 _ hgb'.1;have q8:=iw hg0;have q9:=gv (bZ (dM m) d).1 (Nat.le_trans k7.len (by omega)) k7.srt (fileN g.base)
          have qc:=wN (bZ (dM m) d).1 (k7.ok (by omega) (by omega)) (fileN g.base) g.size
          have kc:=xS k7 g;have qy:=fun d' (h:okN k u d')=>mw d' (h.ok (by omega) (by omega)) (fileN g.base)
          have hrl9:=de (bZ (dM m) d).1.files (fileN g.base);have hu9:=k7.used;have ecut:=xO k7 g;unfold ig fi tV at hZ;simp only at hZ;clear kc hdec hmi hmo hb0;clear q3 q4 q5 q6 hr4 hsn hh;generalize dM m=UN at *;generalize bZ UN d=w at *;by_cases c8:w.2=0
          ·rw[if_neg (by simp[c8])] at hZ
           have hsz:=hgb'.2.2;have hgn0:=hgb'.2.1;by_cases c9:g.size<((az w.1.files (fileN g.base)).1.length:Nat)
           ·rw[if_pos c9] at hZ;generalize ai w.1 (vW w.1.files (fileN g.base) g.size)=r at *;by_cases ca:r.2=0
            ·rw[if_pos ca] at hZ;have qz:=qy r.1 ecut;clear qy;generalize ai r.1 (ch r.1.files (fileN g.base))=t at *;by_cases cb:t.2=0
             ·rw[if_neg (by simp[cb])] at hZ
              subst hZ;generalize az w.1.files (fileN g.base)=rg at *;generalize fileN g.base=fg at *;obtain⟨⟨wf,wc,wa,wl,wd⟩,we⟩:=w;obtain⟨⟨rf',rc,ra,rl,rd⟩,re⟩:=r;obtain⟨⟨tf,tc,ta,tl,td⟩,te⟩:=t;obtain⟨gb,gn,gz⟩:=g;simp only[aK,Dsk.l,Seg.enc] at *;(simp(disch:=first|decide|omega|(intros;exact aP rfl rfl)|simp only[am]) only[fU,jX,tG,zF hc,hlm,htk,hln,q7,c8,gl,hgn,ei,q8,q9,zT c9,qc,ca,qz,cb,cf,hcell,go_sem,seval,aO])
              try simp[trim]
             ·rw[if_pos cb] at hZ;subst hZ;generalize az w.1.files (fileN g.base)=rg at *;generalize fileN g.base=fg at *;obtain⟨⟨wf,wc,wa,wl,wd⟩,we⟩:=w;obtain⟨⟨rf',rc,ra,rl,rd⟩,re⟩:=r;obtain⟨⟨tf,tc,ta,tl,td⟩,te⟩:=t;obtain⟨gb,gn,gz⟩:=g;simp only[aK,Dsk.l,Seg.enc] at *;(simp(disch:=first|decide|omega|(intros;exact aP rfl rfl)|simp only[am]) only[fU,jX,tG,zF hc,hlm,htk,hln,q7,c8,gl,hgn,ei,q8,q9,zT c9,qc,ca,qz,cb,cf,hcell,hds,go_sem,seval,aO])
              try simp[trim]
            ·rw[if_neg ca,if_pos ca] at hZ;subst hZ;clear qy;generalize az w.1.files (fileN g.base)=rg at *;generalize fileN g.base=fg at *;obtain⟨⟨wf,wc,wa,wl,wd⟩,we⟩:=w;obtain⟨⟨rf',rc,ra,rl,rd⟩,re⟩:=r;obtain⟨gb,gn,gz⟩:=g;simp only[aK,Dsk.l,Seg.enc] at *;(simp(disch:=first|decide|omega|(intros;exact aP rfl rfl)|simp only[am]) only[fU,jX,tG,zF hc,hlm,htk,hln,q7,c8,gl,hgn,ei,q8,q9,zT c9,qc,ca,cf,hcell,hds,go_sem,seval,aO])
             try simp[trim]
           ·rw[if_neg c9] at hZ;have qz:=qy w.1 k7;clear qy qc ecut;rw[if_pos rfl] at hZ;simp only at hZ;generalize ai w.1 (ch w.1.files (fileN g.base))=t at *;by_cases cb:t.2=0
            ·rw[if_neg (by simp[cb])] at hZ
             subst hZ;generalize az w.1.files (fileN g.base)=rg at *;generalize fileN g.base=fg at *;obtain⟨⟨wf,wc,wa,wl,wd⟩,we⟩:=w;obtain⟨⟨tf,tc,ta,tl,td⟩,te⟩:=t;obtain⟨gb,gn,gz⟩:=g;simp only[aK,Dsk.l,Seg.enc] at *;(simp(disch:=first|decide|omega|(intros;exact aP rfl rfl)|simp only[am]) only[fU,jX,tG,zF hc,hlm,htk,hln,q7,c8,gl,hgn,ei,q8,q9,zF c9,qz,cb,cf,hcell,go_sem,seval,aO])
             try simp[trim]
            ·rw[if_pos cb] at hZ;subst hZ;generalize az w.1.files (fileN g.base)=rg at *;generalize fileN g.base=fg at *;obtain⟨⟨wf,wc,wa,wl,wd⟩,we⟩:=w;obtain⟨⟨tf,tc,ta,tl,td⟩,te⟩:=t;obtain⟨gb,gn,gz⟩:=g;simp only[aK,Dsk.l,Seg.enc] at *;(simp(disch:=first|decide|omega|(intros;exact aP rfl rfl)|simp only[am]) only[fU,jX,tG,zF hc,hlm,htk,hln,q7,c8,gl,hgn,ei,q8,q9,zF c9,qz,cb,cf,hcell,hds,go_sem,seval,aO])
             try simp[trim]
          ·rw[if_pos c8] at hZ;subst hZ;clear qy qc ecut;obtain⟨⟨wf,wc,wa,wl,wd⟩,we⟩:=w;simp only[aK,Dsk.l] at *;refine bh ?_ jX.eq_1 tG.eq_1 (zF hc) hlm htk hln q7 c8 @cf.eq_1 hcell hds;try simp[trim]
       ·rw[if_neg fun h=>c5 (iK.1 h c2).2.2] at hZ
        subst hZ;rw[hsn] at c5;rw[hml] at q2;generalize az d.files [109]=rf at *;generalize az d.files (aC (m.segs.headD 0))=rs at *;generalize aC (m.segs.headD 0)=sn at *;generalize m.segs.headD 0=h0 at *;simp only[cf,hcell,hds,hdl] at q1 q4 ⊢;rw[c0'] at q1 q4 ⊢;obtain⟨cc,hcc⟩:∃ cc:Int,(((cr 0#32 rs.1).toNat:Nat):Int)=cc:=⟨_,rfl⟩;rw[hcc] at q5 c5;refine bh ?_ tG.eq_1 q1 c1 q2 g0 (zT c2) q3 q4 c3 c4 q5 c5;try simp[trim]
      ·rw[if_neg fun h=>c4 (iK.1 h c2).2.1] at hZ
       subst hZ;rw[hml] at q2;generalize az d.files [109]=rf at *;generalize az d.files (aC (m.segs.headD 0))=rs at *;generalize aC (m.segs.headD 0)=sn at *;generalize m.segs.headD 0=h0 at *;simp only[cf,hcell,hds,hdl] at q1 q4 ⊢;rw[c0'] at q1 q4 ⊢;refine bh ?_ tG.eq_1 q1 c1 q2 g0 (zT c2) q3 q4 c3 c4;try simp[trim]
     ·rw[if_neg fun h=>c3 (iK.1 h c2).1] at hZ
      subst hZ;rw[hml] at q2;generalize az d.files [109]=rf at *;generalize az d.files (aC (m.segs.headD 0))=rs at *;generalize aC (m.segs.headD 0)=sn at *;generalize m.segs.headD 0=h0 at *;simp only[cf,hcell,hds,hdl] at q1 q4 ⊢;rw[c0'] at q1 q4 ⊢;refine bh ?_ tG.eq_1 q1 c1 q2 g0 (zT c2) q3 q4 c3;try simp[trim]
    ·rw[if_pos (iK.2 fun h=>absurd h c2)] at hZ
     have hU:fC m=[[109]]:=by unfold fC;rw[if_neg c2]
     rw[hml] at q2 q6;simp only[hdl] at q1 q4 q6 q7 ⊢;rw[c0'] at q1 q4 q6 q7 ⊢;cases hsg:gH d m.segs with
     | none =>
      rw[hsg] at hZ q6;simp only at hZ;subst hZ;unfold oA at q6;simp only[cf,hcell,hds];refine bh ?_ tG.eq_1 q1 c1 q2 g0 (zF c2) q6;try simp[trim,c0']
     | some gs =>
      rw[hsg] at hZ q6;simp only at hZ;replace hgl:=hgl gs hsg
      replace hgb:=hgb gs hsg
      simp only[oA] at q6;refine bh ?_ tG.eq_1 q1 c1 q2 g0 (zF c2) q6;refine aq (m:=0) (σ:=Nat) (fun i=>m.segs.length-i) (fun i=>i<=m.segs.length) (fun i=>[V.one (.p 0 0),V.one (.p 1 0),V.one (.p 2 0),V.one (.sl 3 1 0 (fC m++(m.segs.take i).map fileN).length),vl (gs.map Seg.enc),vi (nA gs),vi i])
       (fun i=>[.cells [.d (.l (d.files.map Fil.enc)),zI d.cap,zB d.armed,zI d.left,zB false],.cells [.ns,zI 0,zB false,zI 0,zB false,zI 0,.ns,zI 0,zI 0,zI 0,zW 0],.cells [zI m.ver,.d (.l (m.segs.map eI)),zI m.size,zW m.sum],.arr 1 ((fC m++(m.segs.take i).map fileN).map eT) 0])
       (fun _=>(cf Z,[])) ?_ 0 (zP _) _ _ (by rw[hU];exact bA)
      intro i h1 R hR;have hul:(fC m).length<=2:=by unfold fC;split <;> simp
      clear hU;by_cases hi:i<m.segs.length
      ·have hc:(i:Int)<(m.segs.length:Int):=by omega
       have g1:(m.segs.map eI)[i]?=some [.i .i64 m.segs[i]]:=by rw[zG,zE hi];rfl
       have qn:=iw (hb0 _ (zN hi));have hR':=hR (i+1) (by omega) (by omega)
       rw[zO hi] at hR';have e2:(fC m++(m.segs.take i++[m.segs[i]]).map fileN).map eT=(fC m++(m.segs.take i).map fileN).map eT++[[.s (fileN m.segs[i])]]:=by
        rw[List.map_append,List.map_append,List.map_append];simp[eT]
       have e3:(fC m++(m.segs.take i++[m.segs[i]]).map fileN).length=(fC m++(m.segs.take i).map fileN).length+1:=by simp;omega
       have hlen:((fC m++(m.segs.take i).map fileN).map eT).length=(fC m++(m.segs.take i).map fileN).length:=by simp
       have hl2:(fC m++(m.segs.take i).map fileN).length<=66:=by simp;omega
       rw[e2,e3] at hR';generalize (fC m++(m.segs.take i).map fileN).length=n at *;generalize (fC m++(m.segs.take i).map fileN).map eT=Q at *;refine bh ?_ jX.eq_1 (zT hc) hlm g1 qn hlen;exact hR' _ _ bA
      ·have hc:¬ (i:Int)<(m.segs.length:Int):=by omega
       have ht:m.segs.take i=m.segs:=zL (by omega)
       rw[ht];have hun:fC m++m.segs.map fileN=dM m:=rfl;rw[hun];have htk:List.take (dM m).length ((dM m).map eT)=(dM m).map eT:=zL (by simp)
       have hln:((dM m).map eT).length=(dM m).length:=by simp
       have hnl:(dM m).length<=66:=by unfold dM;simp;omega
       have hgm:gs≠[]:=by intro h;rw[h] at hgl;simp at hgl;omega
       have hgn:(gs.map Seg.enc).length=gs.length:=by simp
       have gl:(gs.map Seg.enc)[gs.length-1]?=some (gs.getLastD ⟨0,0,0⟩).enc:=by
        rw[zG,<- List.getLast?_eq_getElem?,List.getLastD_eq_getLast?,List.getLast?_eq_some_getLast hgm];rfl
       have ei:((gs.length:Int)-1).toNat=gs.length-1:=by omega
       have hgp:1<=gs.length:=by omega
       have hgq:gs.length<=64:=by omega
       have hwh:nA gs=(gs.getLastD ⟨0,0,0⟩).size:=rfl;have hgb':=hgb (gs.getLastD ⟨0,0,0⟩) (by rw[List.getLastD_eq_getLast?,List.getLast?_eq_some_getLast hgm];exact List.getLast_mem hgm)
       unfold Ed at hZ;rw[hwh];generalize gs.getLastD ⟨0,0,0⟩=g at *;clear hgb hwh hgm hun hR ht;have hg0:=hb0 _ hgb'.1;have q8:=iw hg0;have q9:=gv (bZ (dM m) d).1 (Nat.le_trans k7.len (by omega)) k7.srt (fileN g.base)
       have qc:=wN (bZ (dM m) d).1 (k7.ok (by omega) (by omega)) (fileN g.base) g.size
       have kc:=xS k7 g;have qy:=fun d' (h:okN k u d')=>mw d' (h.ok (by omega) (by omega)) (fileN g.base)
       have hrl9:=de (bZ (dM m) d).1.files (fileN g.base);have hu9:=k7.used;have ecut:=xO k7 g;unfold ig fi tV at hZ;simp only at hZ;clear kc hdec hmi hmo hb0;clear q3 q4 q5 q6 hr4 hsn hh;generalize dM m=UN at *;generalize bZ UN d=w at *;by_cases c8:w.2=0
       ·rw[if_neg (by simp[c8])] at hZ
        have hsz:=hgb'.2.2;have hgn0:=hgb'.2.1;by_cases c9:g.size<((az w.1.files (fileN g.base)).1.length:Nat)
        ·rw[if_pos c9] at hZ;generalize ai w.1 (vW w.1.files (fileN g.base) g.size)=r at *;by_cases ca:r.2=0
         ·rw[if_pos ca] at hZ;have qz:=qy r.1 ecut;clear qy;generalize ai r.1 (ch r.1.files (fileN g.base))=t at *;by_cases cb:t.2=0
          ·rw[if_neg (by simp[cb])] at hZ
           subst hZ;generalize az w.1.files (fileN g.base)=rg at *;generalize fileN g.base=fg at *;obtain⟨⟨wf,wc,wa,wl,wd⟩,we⟩:=w;obtain⟨⟨rf',rc,ra,rl,rd⟩,re⟩:=r;obtain⟨⟨tf,tc,ta,tl,td⟩,te⟩:=t;obtain⟨gb,gn,gz⟩:=g;simp only[aK,Dsk.l,Seg.enc] at *;(simp(disch:=first|decide|omega|(intros;exact aP rfl rfl)|simp only[am]) only[fU,jX,tG,zF hc,hlm,htk,hln,q7,c8,gl,hgn,ei,q8,q9,zT c9,qc,ca,qz,cb,cf,hcell,go_sem,seval,aO])
           try simp[trim]
          ·rw[if_pos cb] at hZ;subst hZ;generalize az w.1.files (fileN g.base)=rg at *;generalize fileN g.base=fg at *;obtain⟨⟨wf,wc,wa,wl,wd⟩,we⟩:=w;obtain⟨⟨rf',rc,ra,rl,rd⟩,re⟩:=r;obtain⟨⟨tf,tc,ta,tl,td⟩,te⟩:=t;obtain⟨gb,gn,gz⟩:=g;simp only[aK,Dsk.l,Seg.enc] at *;(simp(disch:=first|decide|omega|(intros;exact aP rfl rfl)|simp only[am]) only[fU,jX,tG,zF hc,hlm,htk,hln,q7,c8,gl,hgn,ei,q8,q9,zT c9,qc,ca,qz,cb,cf,hcell,hds,go_sem,seval,aO])
           try simp[trim]
         ·rw[if_neg ca,if_pos ca] at hZ;subst hZ;clear qy;generalize az w.1.files (fileN g.base)=rg at *;generalize fileN g.base=fg at *;obtain⟨⟨wf,wc,wa,wl,wd⟩,we⟩:=w;obtain⟨⟨rf',rc,ra,rl,rd⟩,re⟩:=r;obtain⟨gb,gn,gz⟩:=g;simp only[aK,Dsk.l,Seg.enc] at *;(simp(disch:=first|decide|omega|(intros;exact aP rfl rfl)|simp only[am]) only[fU,jX,tG,zF hc,hlm,htk,hln,q7,c8,gl,hgn,ei,q8,q9,zT c9,qc,ca,cf,hcell,hds,go_sem,seval,aO])
          try simp[trim]
        ·rw[if_neg c9] at hZ;have qz:=qy w.1 k7;clear qy qc ecut;rw[if_pos rfl] at hZ;simp only at hZ;generalize ai w.1 (ch w.1.files (fileN g.base))=t at *;by_cases cb:t.2=0
         ·rw[if_neg (by simp[cb])] at hZ
          subst hZ;generalize az w.1.files (fileN g.base)=rg at *;generalize fileN g.base=fg at *;obtain⟨⟨wf,wc,wa,wl,wd⟩,we⟩:=w;obtain⟨⟨tf,tc,ta,tl,td⟩,te⟩:=t;obtain⟨gb,gn,gz⟩:=g;simp only[aK,Dsk.l,Seg.enc] at *;(simp(disch:=first|decide|omega|(intros;exact aP rfl rfl)|simp only[am]) only[fU,jX,tG,zF hc,hlm,htk,hln,q7,c8,gl,hgn,ei,q8,q9,zF c9,qz,cb,cf,hcell,go_sem,seval,aO])
          try simp[trim]
         ·rw[if_pos cb] at hZ;subst hZ;generalize az w.1.files (fileN g.base)=rg at *;generalize fileN g.base=fg at *;obtain⟨⟨wf,wc,wa,wl,wd⟩,we⟩:=w;obtain⟨⟨tf,tc,ta,tl,td⟩,te⟩:=t;obtain⟨gb,gn,gz⟩:=g;simp only[aK,Dsk.l,Seg.enc] at *;(simp(disch:=first|decide|omega|(intros;exact aP rfl rfl)|simp only[am]) only[fU,jX,tG,zF hc,hlm,htk,hln,q7,c8,gl,hgn,ei,q8,q9,zF c9,qz,cb,cf,hcell,hds,go_sem,seval,aO])
          try simp[trim]
       ·rw[if_pos c8] at hZ;subst hZ;clear qy qc ecut;obtain⟨⟨wf,wc,wa,wl,wd⟩,we⟩:=w;simp only[aK,Dsk.l] at *;refine bh ?_ jX.eq_1 tG.eq_1 (zF hc) hlm htk hln q7 c8 @cf.eq_1 hcell hds;try simp[trim]
  ·rw[if_pos c1];have q3:=BS d hd hk (by omega)
   generalize az d.files [109]=rf at *;generalize xJ d=r at *;obtain⟨y,e⟩:=r;simp only[cf,hcell,hdl] at q1 q3 ⊢;rw[c0'] at q1 q3 ⊢;refine bh ?_ tG.eq_1 q1 c1 q3;try simp[trim]
end Go.Proofs.YtgoifbjgmgbihaaGreat
