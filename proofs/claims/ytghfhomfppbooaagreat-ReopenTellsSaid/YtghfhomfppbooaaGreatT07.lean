import Derived.Test.YtghfhomfppbooaaGreatT06
import Derived.Test.YtghfhomfppbooaaGreatT05
set_option linter.unusedSimpArgs false
set_option linter.unusedVariables false
namespace Go.Proofs.YtghfhomfppbooaaGreat
open Go.Vi
def manN (m:Man):List Int:=m.ver::(m.segs.length:Int)::m.segs++[m.size]
theorem manN_len (m:Man):(manN m).length=m.segs.length+3:=by simp[manN]
theorem manN_1 (m:Man):(manN m)[1]?=some (m.segs.length:Int):=rfl
theorem manBody_N (m:Man):manBody m=numsE (manN m)++four (sumM m):=rfl
theorem manN_in {m:Man} (h:manB m=true):∀ v∈manN m,0<=v∧v<9223372036854775808:=by
 obtain⟨h1,h2,h3,h4⟩:=manB_t h;have hin:=incB_mem _ _ h3;intro v hv;simp only[manN,List.cons_append,List.mem_cons,List.mem_append,List.mem_nil_iff,or_false] at hv;rcases hv with rfl|rfl|hv|rfl
 ·omega
 ·omega
 ·have:=hin v hv;omega
 ·omega
theorem numsE_cons (x:Int) (r:List Int):numsE (x::r)=enc128 x.toNat++numsE r:=by simp[numsE]
theorem man_read {m:Man} (h:manB m=true) (j:Nat) (hj:j<(manN m).length):rdF ((manBody m).drop (numsE ((manN m).take j)).length) 0 0=some ((manN m)[j].toNat,nd (manN m)[j].toNat)∧(numsE ((manN m).take (j+1))).length=(numsE ((manN m).take j)).length+nd (manN m)[j].toNat:=by
 have hv:=manN_in h _ (List.getElem_mem hj);have e:manBody m=numsE ((manN m).take j)++(enc128 (manN m)[j].toNat++(numsE ((manN m).drop (j+1))++four (sumM m))):=by
  have e2:manN m=(manN m).take j++(manN m)[j]::(manN m).drop (j+1):=by rw[<- List.drop_eq_getElem_cons hj,List.take_append_drop]
  have e3:numsE (manN m)=numsE ((manN m).take j)++(enc128 (manN m)[j].toNat++numsE ((manN m).drop (j+1))):=by
   conv=>lhs;rw[e2]
   rw[numsE_app,numsE_cons]
  rw[manBody_N,e3];simp
 constructor
 ·rw[e,List.drop_left];exact rdF_of0 _ _ (by omega)
 ·rw[List.take_succ_eq_append_getElem hj,numsE_app,List.length_append];simp[numsE];rfl
theorem man_lt {m:Man} (j:Nat) (hj:j<=(manN m).length):(numsE ((manN m).take j)).length+4<=(manBody m).length:=by
 have:numsE (manN m)=numsE ((manN m).take j)++numsE ((manN m).drop j):=by rw[<- numsE_app,List.take_append_drop]
 rw[manBody_N,this];simp[four_len]
def zeroM:List L:=[.d (.i .i64 0),.d (.l []),.d (.i .i64 0),.d (.i .u32 0)]
def manV4 (m:Man):V:=.tup [(true,m.l),(false,[.d (.i .i64 0)])]
def errM (e:Int):V:=.tup [(true,zeroM),(false,[.d (.i .i64 e)])]
def mkM (q:List Int) (x:Int):Man:=⟨q.headD 0,(q.drop 2).take (q.length-1-2),q.getLastD 0,x⟩
theorem mk_man {m:Man}:mkM (manN m) m.sum=m:=by
 obtain⟨v,sg,z,x⟩:=m;have e:(manN ⟨v,sg,z,x⟩).getLastD 0=z:=by
  show((v::(sg.length:Int)::sg)++[z]).getLastD 0=z;rw[List.getLastD_concat]
 unfold mkM;rw[e];simp[manN]
theorem eI_get (q:List Int) (j:Nat) (h:j<q.length):(q.map eI)[j]?=some [.i .i64 q[j]]:=by rw[List.getElem?_map,List.getElem?_eq_getElem h];rfl
def u8a (b:Txt) (i:Nat):Int:=((b[i]?.getD 0).toNat:Nat)
theorem u8a_lt (b:Txt) (i:Nat):0<=u8a b i∧u8a b i<256:=by
 have:=UInt8.toNat_lt (b[i]?.getD 0);unfold u8a;omega
def sumA (b:Txt) (a:Nat):Nat->Int
 | 0=>u8a b (a+3)*16777216+u8a b (a+2)*65536+u8a b (a+1)*256+u8a b a
 | 1=>u8a b (a+3)*65536+u8a b (a+2)*256+u8a b (a+1)
 | 2=>u8a b (a+3)*256+u8a b (a+2)
 | 3=>u8a b (a+3)
 | _=>0
theorem sumA_bd (b:Txt) (a j:Nat):0<=sumA b a j∧sumA b a j<4294967296:=by
 have h0:=u8a_lt b a;have h1:=u8a_lt b (a+1);have h2:=u8a_lt b (a+2);have h3:=u8a_lt b (a+3);unfold sumA;split <;> omega
theorem sumA_man {m:Man} (h:manB m=true) (hm:m.ok):sumA (manBody m) (numsE (manN m)).length 0=m.sum:=by
 have e:∀ i,i<4->(manBody m)[(numsE (manN m)).length+i]?=(four (sumM m))[i]?:=by
  intro i hi;rw[manBody_N,List.getElem?_append_right (by omega)]
  congr 1;omega
 have hs:=sum4_four (sumM m);rw[man_sum hm] at hs;have e0:=e 0 (by decide)
 have e1:=e 1 (by decide)
 have e2:=e 2 (by decide)
 have e3:=e 3 (by decide)
 rw[Nat.add_zero] at e0;obtain⟨b0,b1,b2,b3,hf⟩:∃ b0 b1 b2 b3,four (sumM m)=[b0,b1,b2,b3]:=⟨_,_,_,_,rfl⟩;rw[hf] at hs e0 e1 e2 e3;simp only[sum4] at hs;unfold sumA u8a;rw[e0,e1,e2,e3];simp only[List.getElem?_cons_zero,List.getElem?_cons_succ,Option.getD_some];omega
set_option maxRecDepth 8000 in
set_option maxHeartbeats 8000000 in
theorem rgetM_spec (s:Txt) (hs:s.length<=1000000) (hok:∀ m,decM s=some m->m.ok):∃ Z,call 29 [vs s] []=some (Z,[])∧(∀ m,decM s=some m->Z=manV4 m)∧(decM s=none->∃ e,e≠0∧Z=errM e):=by
 have q0:=refNext_spec s 0 (by decide) (by omega)
 have z0:((0:Nat):Int)=0:=rfl;rw[z0] at q0;have hdm:∀ m,decM s=some m->nextF s 0=(manBody m,s.length,0):=fun m h=>by
  have:=dec_some h;have h2:=next_man this.1;rw[this.2] at h2;exact h2
 have hbl:=nextF_tlen s 0;obtain⟨⟨b,nx,e⟩,hnx⟩:∃ r,r=nextF s 0:=⟨_,rfl⟩;rw[<- hnx] at q0 hdm hbl;simp only[nextV] at q0 hbl;by_cases he:e=0
 ·subst he;have hdb:∀ m,decM s=some m->b=manBody m:=fun m h=>by have:=hdm m h;cases this;rfl
  refine⟨match decM s with|some m=>manV4 m|none=>errM 3,?_,fun m h=>by rw[h],fun h=>⟨3,by decide,by rw[h]⟩⟩
  generalize hZ:(match decM s with|some m=>manV4 m|none=>errM 3)=Z
  have hZn:decM s=none->Z=errM 3:=fun h=>by rw[<- hZ,h]
  have hZs:∀ m,decM s=some m->Z=manV4 m:=fun m h=>by rw[<- hZ,h]
  clear hZ hdm;apply enterS s29 rfl;(simp(disch:=first|decide|omega|(intros;exact Eq.trans rfl rfl)|simp only[puri]) only[wkf,a29,q0,go_sem,seval,dis])
  refine loop_boxM (m:=0) (σ:=List Int × Nat) (fun t=>200-t.1.length) (fun t=>t.1.length<=100∧t.2<=b.length∧(∀ v∈t.1,0<=v∧v<9223372036854775808)∧∀ m,decM s=some m->t.1.length<(manN m).length∧t.1=(manN m).take t.1.length∧t.2=(numsE ((manN m).take t.1.length)).length)
   (fun t=>[vs s,V.one (.p 0 0),vs b,V.one (.sl 1 1 0 t.1.length),vi t.2]) (fun t=>[.cells [.d (.i .i64 0),.ns,.d (.i .i64 0),.d (.i .u32 0)],.arr 1 (t.1.map eI) 0])
   (fun _=>(Z,[])) ?_ ([],0) ⟨by decide,Nat.zero_le _,fun v hv=>(by cases hv),fun m hm=>⟨by rw[manN_len];simp,rfl,rfl⟩⟩ _ _ hdM
  rintro⟨L1,a1⟩ ⟨h1,h2,h3,h4⟩ R hR;simp only at h1 h2 h3 h4 ⊢;have q1:=refRead_spec b a1 (by omega) (by omega)
  have hml:(L1.map eI).length=L1.length:=by simp
  by_cases c1:a1<b.length
  ·by_cases c2:L1.length<100
   ·cases hrd:rdF (b.drop a1) 0 0 with
    | some r =>
     obtain⟨v,n⟩:=r;have hv9:=rd_lt hrd;have hrl:=(rdF_enc0 hrd).2.1;rw[List.length_drop] at hrl;rw[hrd] at q1;simp only[rdV] at q1;have hmap:L1.map eI++[[.i .i64 (v:Int)]]=(L1++[(v:Int)]).map eI:=by simp[eI]
     have hlen:L1.length+1=(L1++[(v:Int)]).length:=by simp
     have hbd:∀ w∈L1++[(v:Int)],0<=w∧w<9223372036854775808:=by
      intro w hw;rcases List.mem_append.1 hw with hw|hw
      ·exact h3 w hw
      ·rw[List.mem_singleton.1 hw];omega
     have hst:∀ m,decM s=some m->(L1++[(v:Int)]).length<=(manN m).length∧L1++[(v:Int)]=(manN m).take (L1++[(v:Int)]).length∧a1+n=(numsE ((manN m).take (L1++[(v:Int)]).length)).length:=by
      intro m hm;obtain⟨p1,p2,p3⟩:=h4 m hm;have hmr:=man_read (dec_some hm).1 L1.length p1;have hin:=manN_in (dec_some hm).1 _ (List.getElem_mem p1);rw[<- hdb m hm,<- p3,hrd] at hmr;have e1:=hmr.1;simp only[Option.some.injEq,Prod.mk.injEq] at e1;rw[<- hlen];refine⟨by omega,?_,?_⟩
      ·rw[List.take_succ_eq_append_getElem p1,<- p2];congr 2;omega
      ·rw[hmr.2];omega
     by_cases c3:3<=(L1++[(v:Int)]).length∧(((L1++[(v:Int)]).length:Nat):Int)=(L1++[(v:Int)]).getD 1 0+3
     ·have hT:∀ m,decM s=some m->L1++[(v:Int)]=manN m∧a1+n=(numsE (manN m)).length:=by
       intro m hm;obtain⟨p1,p2,p3⟩:=hst m hm;have e1:(L1++[(v:Int)]).getD 1 0=(m.segs.length:Int):=by
        rw[p2,List.getD_eq_getElem?_getD,List.getElem?_take_of_lt (by omega),manN_1];rfl
       rw[e1] at c3;have e2:(L1++[(v:Int)]).length=(manN m).length:=by rw[manN_len];omega
       rw[e2,List.take_length] at p2 p3;exact⟨p2,p3⟩
      obtain⟨Q,hQ⟩:∃ Q,Q=L1++[(v:Int)]:=⟨_,rfl⟩;obtain⟨a,ha⟩:∃ a,a=a1+n:=⟨_,rfl⟩;rw[<- hQ] at hmap hlen hbd c3 hT;rw[<- ha] at hT q1;have hQb:Q.length<=101:=by omega
      have hab:a<=b.length:=by omega
      clear hst hR h4 hQ hrd;have g1:(Q.map eI)[1]?=some [.i .i64 (Q.getD 1 0)]:=by rw[eI_get Q 1 (by omega),List.getD_eq_getElem?_getD,List.getElem?_eq_getElem (by omega)];rfl
      have c3a:(3:Int)<=(Q.length:Int):=by omega
      have hgd:=hbd _ (List.getElem_mem (show 1<Q.length by omega))
      have hgd2:0<=Q.getD 1 0∧Q.getD 1 0<=1000:=by omega
      obtain⟨W,hW⟩:∃ W,W=Q.getD 1 0:=⟨_,rfl⟩;rw[<- hW] at g1 c3 hgd2;have c6:¬ (Q.length:Int)<3:=by omega
      have c7:(Q.length:Int)=W+3:=by omega
      by_cases t3:(b.length:Int)-(a:Int)=4
      ·have g0:(Q.map eI)[0]?=some [.i .i64 (Q.headD 0)]:=by rw[eI_get Q 0 (by omega)];cases Q with|nil=>simp at c3|cons x r=>rfl
       have hQl:Q.length-1<Q.length:=by omega
       have gz:(Q.map eI)[Q.length-1]?=some [.i .i64 (Q.getLastD 0)]:=by
        rw[eI_get Q _ hQl];rw[List.getLastD_eq_getLast?,List.getLast?_eq_getElem?,List.getElem?_eq_getElem hQl];rfl
       have ek:((Q.length:Int)-1).toNat=Q.length-1:=by omega
       have htd:List.take (Q.length-1-2) (List.drop 2 (Q.map eI))=((Q.drop 2).take (Q.length-1-2)).map eI:=by rw[List.map_take,List.map_drop]
       obtain⟨qh,hqh⟩:∃ qh,qh=Q.headD 0:=⟨_,rfl⟩;obtain⟨ql,hql⟩:∃ ql,ql=Q.getLastD 0:=⟨_,rfl⟩;rw[<- hqh] at g0;rw[<- hql] at gz;have ek2:Q.length-1-2=Q.length-3:=by omega
       (simp(disch:=first|decide|omega|(intros;exact Eq.trans rfl rfl)|simp only[puri]) only[wkf,a29_0,a29,q1,hmap,hml,hlen,c1,c2,c3a,c6,eq_true c7,g1,decide_eq_true t3,g0,gz,ek,go_sem,seval,dis,vdr,A.kind,A.xs,optX,A.isN])
       refine loop_boxM (m:=0) (σ:=Nat) (fun j=>j) (fun j=>j<=4) (fun j=>[vs s,V.one (.p 0 0),vs b,vi a,V.one (.p 1 0),vi ((j:Int)-1)])
        (fun j=>[.cells [.d (.i .i64 0),.ns,.d (.i .i64 0),.d (.i .u32 0)],.cells [.d (.i .i64 qh),.sl 2 1 2 (Q.length-1-2),.d (.i .i64 ql),.d (.i .u32 (sumA b a j))],.arr 1 (Q.map eI) 0]) (fun _=>(Z,[])) ?_ 4 (Nat.le_refl _) _ _ hdM
       clear q1 g1 g0 gz hmap;intro j hj K hK;have hsb:=sumA_bd b a j;rcases(by omega:j=0∨j=1∨j=2∨j=3∨j=4) with rfl|rfl|rfl|rfl|rfl
       ·obtain⟨ac,hac⟩:∃ ac,ac=sumA b a 0:=⟨_,rfl⟩;rw[<- hac] at hsb ⊢;have hMe:(mkM Q ac).l=[.d (.i .i64 qh),.d (.l (((Q.drop 2).take (Q.length-1-2)).map eI)),.d (.i .i64 ql),.d (.i .u32 ac)]:=by rw[hqh,hql];rfl
        have hMo:(mkM Q ac).ok:=⟨by simp[mkM];omega,hsb⟩
        have g1:=rmanPut_spec (mkM Q ac) hMo;rw[hMe] at g1;have hdM:∀ m,decM s=some m->mkM Q ac=m:=fun m h=>by
         obtain⟨p1,p2⟩:=hT m h;rw[hac,p2,hdb m h,sumA_man (dec_some h).1 (hok m h),p1,mk_man]
        have hmx:max 0 (2+(Q.length-1-2))<=Q.length:=by omega
        have hle:2+(Q.length-1-2)<=Q.length:=by omega
        by_cases k1:manB (mkM Q ac)=true
        ·have hmp:manPut (mkM Q ac)=(manText (mkM Q ac),0):=by unfold manPut;rw[if_pos k1]
         rw[hmp] at g1;simp only at g1;by_cases k2:manText (mkM Q ac)=s
         ·have hd:decM s=some (mkM Q ac):=by
           have:=dec_text k1 hMo;rw[k2] at this;exact this
          rw[hZs _ hd];have k3:(manText (mkM Q ac) == s)=true:=by simpa using k2
          unfold manV4;rw[hMe];rw[k2] at g1;generalize mkM Q ac=MM at *;(simp(disch:=first|decide|omega|(intros;exact Eq.trans rfl rfl)|simp only[puri]) only[wkf,a29_1,a29,g1,htd,List.length_map,go_sem,seval,dis,vdr,A.kind,A.xs,optX,A.isN])
          try simp[trim]
         ·have hd:decM s=none:=by
           cases hd:decM s with
           | none=>rfl
           | some m=>exact absurd (by rw[hdM m hd];exact(dec_some hd).2) k2
          rw[hZn hd];have k3:(manText (mkM Q ac) == s)=false:=by simpa using k2
          generalize manText (mkM Q ac)=TT at *;generalize mkM Q ac=MM at *;(simp(disch:=first|decide|omega|(intros;exact Eq.trans rfl rfl)|simp only[puri]) only[wkf,a29_1,a29,g1,htd,k3,List.length_map,go_sem,seval,dis,vdr,A.kind,A.xs,optX,A.isN])
          try simp[trim,errM,zeroM]
        ·have hmp:manPut (mkM Q ac)=([],1):=by unfold manPut;rw[if_neg k1]
         rw[hmp] at g1;simp only at g1;have hd:decM s=none:=by
          cases hd:decM s with
          | none=>rfl
          | some m=>exact absurd (by rw[hdM m hd];exact(dec_some hd).1) k1
         rw[hZn hd];generalize mkM Q ac=MM at *;(simp(disch:=first|decide|omega|(intros;exact Eq.trans rfl rfl)|simp only[puri]) only[wkf,a29_1,a29,g1,htd,List.length_map,go_sem,seval,dis,vdr,A.kind,A.xs,optX,A.isN])
         try simp[trim,errM,zeroM]
       ·have hbi:a<b.length:=by omega
        have gb:b[a]?=some b[a]:=List.getElem?_eq_getElem hbi;have hu:u8a b (a)=((b[a].toNat:Nat):Int):=by unfold u8a;rw[gb];rfl
        have hul:=UInt8.toNat_lt b[a];have e1:sumA b a 0=sumA b a 1*256+u8a b (a):=by simp only[sumA];try omega
        have hsb2:=sumA_bd b a 0;have hei:((a:Int)+0).toNat=a:=by omega
        have hK':=hK 0 (by decide) (by omega)
        rw[e1] at hK' hsb2;rw[hu] at hK' hsb2;generalize b[a]=bx at *;generalize sumA b a 1=ac at *;clear e1 hu;(simp(disch:=first|decide|omega|(intros;exact Eq.trans rfl rfl)|simp only[puri]) only[wkf,a29_1,hei,gb,List.length_map,go_sem,seval,dis,vdr,A.kind,A.xs,optX,A.isN])
        exact hK' _ _ hdM
       ·have hbi:a+1<b.length:=by omega
        have gb:b[a+1]?=some b[a+1]:=List.getElem?_eq_getElem hbi;have hu:u8a b (a+1)=((b[a+1].toNat:Nat):Int):=by unfold u8a;rw[gb];rfl
        have hul:=UInt8.toNat_lt b[a+1];have e1:sumA b a 1=sumA b a 2*256+u8a b (a+1):=by simp only[sumA];try omega
        have hsb2:=sumA_bd b a 1;have hei:((a:Int)+1).toNat=a+1:=by omega
        have hK':=hK 1 (by decide) (by omega)
        rw[e1] at hK' hsb2;rw[hu] at hK' hsb2;generalize b[a+1]=bx at *;generalize sumA b a 2=ac at *;clear e1 hu;(simp(disch:=first|decide|omega|(intros;exact Eq.trans rfl rfl)|simp only[puri]) only[wkf,a29_1,hei,gb,List.length_map,go_sem,seval,dis,vdr,A.kind,A.xs,optX,A.isN])
        exact hK' _ _ hdM
       ·have hbi:a+2<b.length:=by omega
        have gb:b[a+2]?=some b[a+2]:=List.getElem?_eq_getElem hbi;have hu:u8a b (a+2)=((b[a+2].toNat:Nat):Int):=by unfold u8a;rw[gb];rfl
        have hul:=UInt8.toNat_lt b[a+2];have e1:sumA b a 2=sumA b a 3*256+u8a b (a+2):=by simp only[sumA];try omega
        have hsb2:=sumA_bd b a 2;have hei:((a:Int)+2).toNat=a+2:=by omega
        have hK':=hK 2 (by decide) (by omega)
        rw[e1] at hK' hsb2;rw[hu] at hK' hsb2;generalize b[a+2]=bx at *;generalize sumA b a 3=ac at *;clear e1 hu;(simp(disch:=first|decide|omega|(intros;exact Eq.trans rfl rfl)|simp only[puri]) only[wkf,a29_1,hei,gb,List.length_map,go_sem,seval,dis,vdr,A.kind,A.xs,optX,A.isN])
        exact hK' _ _ hdM
       ·have hbi:a+3<b.length:=by omega
        have gb:b[a+3]?=some b[a+3]:=List.getElem?_eq_getElem hbi;have hu:u8a b (a+3)=((b[a+3].toNat:Nat):Int):=by unfold u8a;rw[gb];rfl
        have hul:=UInt8.toNat_lt b[a+3];have e1:sumA b a 3=sumA b a 4*256+u8a b (a+3):=by simp only[sumA];try omega
        have hsb2:=sumA_bd b a 3;have hei:((a:Int)+3).toNat=a+3:=by omega
        have hK':=hK 3 (by decide) (by omega)
        rw[e1] at hK' hsb2;rw[hu] at hK' hsb2;generalize b[a+3]=bx at *;generalize sumA b a 4=ac at *;clear e1 hu;(simp(disch:=first|decide|omega|(intros;exact Eq.trans rfl rfl)|simp only[puri]) only[wkf,a29_1,hei,gb,List.length_map,go_sem,seval,dis,vdr,A.kind,A.xs,optX,A.isN])
        exact hK' _ _ hdM
      ·have hno:decM s=none:=by
        cases hd:decM s with
        | none=>rfl
        | some m =>
         exfalso;obtain⟨p1,p2⟩:=hT m hd;have:=hdb m hd;rw[this,manBody_N,List.length_append,four_len,p2] at t3;omega
       rw[hZn hno];(simp(disch:=first|decide|omega|(intros;exact Eq.trans rfl rfl)|simp only[puri]) only[wkf,a29_0,a29,q1,hmap,hml,hlen,c1,c2,c3a,c6,eq_true c7,g1,decide_eq_false t3,go_sem,seval,dis,vdr,A.kind,A.xs,optX,A.isN])
       try simp[trim,errM,zeroM]
     ·have hR':=hR (L1++[(v:Int)],a1+n) (by simp;omega) ⟨by simp;omega,by simp only[];omega,hbd,fun m hm=>by
       obtain⟨p1,p2,p3⟩:=hst m hm;refine⟨?_,p2,p3⟩;simp only[];rcases Nat.lt_or_ge (L1++[(v:Int)]).length (manN m).length with h|h
       ·exact h
       ·exfalso;have e2:(L1++[(v:Int)]).length=(manN m).length:=by omega
        apply c3;rw[manN_len] at e2;refine⟨by omega,?_⟩
        have e1:(L1++[(v:Int)]).getD 1 0=(m.segs.length:Int):=by
         rw[p2,List.getD_eq_getElem?_getD,List.getElem?_take_of_lt (by omega),manN_1];rfl
        rw[e1,e2];omega⟩
      obtain⟨Q,hQ⟩:∃ Q,Q=L1++[(v:Int)]:=⟨_,rfl⟩;rw[<- hQ] at hmap hlen hbd c3 hR';by_cases c4:3<=Q.length
      ·have c5:¬ ((Q.length:Int)=Q.getD 1 0+3):=fun h=>c3 ⟨c4,h⟩
       have g1:(Q.map eI)[1]?=some [.i .i64 (Q.getD 1 0)]:=by rw[eI_get Q 1 (by omega),List.getD_eq_getElem?_getD,List.getElem?_eq_getElem (by omega)];rfl
       have c3a:(3:Int)<=(Q.length:Int):=by omega
       have hgd:=hbd _ (List.getElem_mem (show 1<Q.length by omega))
       have hgd2:Q.getD 1 0=Q[1]:=by rw[List.getD_eq_getElem?_getD,List.getElem?_eq_getElem (by omega)];rfl
       obtain⟨W,hW⟩:∃ W,W=Q.getD 1 0:=⟨_,rfl⟩;rw[<- hW] at g1 c5 hgd2;by_cases hwr:W+3<9223372036854775808
       ·(simp(disch:=first|decide|omega|(intros;exact Eq.trans rfl rfl)|simp only[puri]) only[wkf,a29_0,q1,hmap,hml,hlen,c1,c2,c3a,c5,g1,go_sem,seval,dis,vdr,A.kind,A.xs,optX,A.isN])
        exact hR' _ _ hdM
       ·obtain⟨W3,hW3,hW4⟩:∃ W3:Int,IntKind.i64.wrap (W+3)=W3∧W3<0:=by
         refine⟨_,rfl,?_⟩;rw[IntWalk.i64_left];unfold RowKit.wrap64;omega
        have c5':¬ (Q.length:Int)=W3:=by omega
        (simp(disch:=first|decide|omega|(intros;exact Eq.trans rfl rfl)|simp only[puri]) only[wkf,a29_0,q1,hmap,hml,hlen,c1,c2,c3a,hW3,c5',g1,go_sem,seval,dis,vdr,A.kind,A.xs,optX,A.isN])
        exact hR' _ _ hdM
      ·have c4':¬ (3:Int)<=(Q.length:Int):=by omega
       (simp(disch:=first|decide|omega|(intros;exact Eq.trans rfl rfl)|simp only[puri]) only[wkf,a29_0,q1,hmap,hml,hlen,c1,c2,c4',go_sem,seval,dis,vdr,A.kind,A.xs,optX,A.isN])
       exact hR' _ _ hdM
    | none =>
     have hno:decM s=none:=by
      cases hd:decM s with
      | none=>rfl
      | some m =>
       exfalso;obtain⟨p1,p2,p3⟩:=h4 m hd;have hmr:=(man_read (dec_some hd).1 L1.length p1).1;rw[<- hdb m hd,<- p3,hrd] at hmr;cases hmr
     rw[hrd] at q1;simp only[rdV] at q1;obtain⟨Q,hQ⟩:∃ Q,Q=L1:=⟨_,rfl⟩;obtain⟨a,ha⟩:∃ a,a=a1:=⟨_,rfl⟩;rw[<- hQ] at h1 h3 hml ⊢;rw[<- ha] at h2 ⊢;rw[<- hQ] at c2;rw[<- ha] at c1 hrd q1;have hT:∀ m,decM s=some m->Q=manN m∧a=(numsE (manN m)).length:=fun m h=>by rw[hno] at h;cases h
     have hQb:Q.length<=101:=by omega
     have hab:a<=b.length:=h2;have hbd:=h3;clear hR h4;by_cases t1:Q.length<3
     ·have t1':(Q.length:Int)<3:=by omega
      rw[hZn hno];(simp(disch:=first|decide|omega|(intros;exact Eq.trans rfl rfl)|simp only[puri]) only[wkf,a29_0,a29,q1,c1,c2,t1',hml,go_sem,seval,dis,vdr,A.kind,A.xs,optX,A.isN])
      try simp[trim,errM,zeroM]
     ·have c6:¬ (Q.length:Int)<3:=by omega
      have g1:(Q.map eI)[1]?=some [.i .i64 (Q.getD 1 0)]:=by rw[eI_get Q 1 (by omega),List.getD_eq_getElem?_getD,List.getElem?_eq_getElem (by omega)];rfl
      have hgd:=hbd _ (List.getElem_mem (show 1<Q.length by omega))
      have hgd2:Q.getD 1 0=Q[1]:=by rw[List.getD_eq_getElem?_getD,List.getElem?_eq_getElem (by omega)];rfl
      obtain⟨W,hW⟩:∃ W,W=Q.getD 1 0:=⟨_,rfl⟩;rw[<- hW] at g1 hgd2;by_cases t2:(Q.length:Int)=W+3
      ·have c3:3<=Q.length∧(Q.length:Int)=W+3:=⟨by omega,t2⟩
       have hgd3:0<=W∧W<=1000:=by omega
       have c6:¬ (Q.length:Int)<3:=by omega
       have c7:(Q.length:Int)=W+3:=by omega
       by_cases t3:(b.length:Int)-(a:Int)=4
       ·have g0:(Q.map eI)[0]?=some [.i .i64 (Q.headD 0)]:=by rw[eI_get Q 0 (by omega)];cases Q with|nil=>simp at c3|cons x r=>rfl
        have hQl:Q.length-1<Q.length:=by omega
        have gz:(Q.map eI)[Q.length-1]?=some [.i .i64 (Q.getLastD 0)]:=by
         rw[eI_get Q _ hQl];rw[List.getLastD_eq_getLast?,List.getLast?_eq_getElem?,List.getElem?_eq_getElem hQl];rfl
        have ek:((Q.length:Int)-1).toNat=Q.length-1:=by omega
        have htd:List.take (Q.length-1-2) (List.drop 2 (Q.map eI))=((Q.drop 2).take (Q.length-1-2)).map eI:=by rw[List.map_take,List.map_drop]
        obtain⟨qh,hqh⟩:∃ qh,qh=Q.headD 0:=⟨_,rfl⟩;obtain⟨ql,hql⟩:∃ ql,ql=Q.getLastD 0:=⟨_,rfl⟩;rw[<- hqh] at g0;rw[<- hql] at gz;have ek2:Q.length-1-2=Q.length-3:=by omega
        (simp(disch:=first|decide|omega|(intros;exact Eq.trans rfl rfl)|simp only[puri]) only[wkf,a29_0,a29,q1,c1,c2,hml,c6,eq_true c7,g1,decide_eq_true t3,g0,gz,ek,go_sem,seval,dis,vdr,A.kind,A.xs,optX,A.isN])
        refine loop_boxM (m:=0) (σ:=Nat) (fun j=>j) (fun j=>j<=4) (fun j=>[vs s,V.one (.p 0 0),vs b,vi a,V.one (.p 1 0),vi ((j:Int)-1)])
         (fun j=>[.cells [.d (.i .i64 0),.ns,.d (.i .i64 0),.d (.i .u32 0)],.cells [.d (.i .i64 qh),.sl 2 1 2 (Q.length-1-2),.d (.i .i64 ql),.d (.i .u32 (sumA b a j))],.arr 1 (Q.map eI) 0]) (fun _=>(Z,[])) ?_ 4 (Nat.le_refl _) _ _ hdM
        clear g1 g0 gz;intro j hj K hK;have hsb:=sumA_bd b a j;rcases(by omega:j=0∨j=1∨j=2∨j=3∨j=4) with rfl|rfl|rfl|rfl|rfl
        ·obtain⟨ac,hac⟩:∃ ac,ac=sumA b a 0:=⟨_,rfl⟩;rw[<- hac] at hsb ⊢;have hMe:(mkM Q ac).l=[.d (.i .i64 qh),.d (.l (((Q.drop 2).take (Q.length-1-2)).map eI)),.d (.i .i64 ql),.d (.i .u32 ac)]:=by rw[hqh,hql];rfl
         have hMo:(mkM Q ac).ok:=⟨by simp[mkM];omega,hsb⟩
         have g1:=rmanPut_spec (mkM Q ac) hMo;rw[hMe] at g1;have hdM:∀ m,decM s=some m->mkM Q ac=m:=fun m h=>by
          obtain⟨p1,p2⟩:=hT m h;rw[hac,p2,hdb m h,sumA_man (dec_some h).1 (hok m h),p1,mk_man]
         have hmx:max 0 (2+(Q.length-1-2))<=Q.length:=by omega
         have hle:2+(Q.length-1-2)<=Q.length:=by omega
         by_cases k1:manB (mkM Q ac)=true
         ·have hmp:manPut (mkM Q ac)=(manText (mkM Q ac),0):=by unfold manPut;rw[if_pos k1]
          rw[hmp] at g1;simp only at g1;by_cases k2:manText (mkM Q ac)=s
          ·have hd:decM s=some (mkM Q ac):=by
            have:=dec_text k1 hMo;rw[k2] at this;exact this
           rw[hZs _ hd];have k3:(manText (mkM Q ac) == s)=true:=by simpa using k2
           unfold manV4;rw[hMe];rw[k2] at g1;generalize mkM Q ac=MM at *;(simp(disch:=first|decide|omega|(intros;exact Eq.trans rfl rfl)|simp only[puri]) only[wkf,a29_1,a29,g1,htd,List.length_map,go_sem,seval,dis,vdr,A.kind,A.xs,optX,A.isN])
           try simp[trim]
          ·have hd:decM s=none:=by
            cases hd:decM s with
            | none=>rfl
            | some m=>exact absurd (by rw[hdM m hd];exact(dec_some hd).2) k2
           rw[hZn hd];have k3:(manText (mkM Q ac) == s)=false:=by simpa using k2
           generalize manText (mkM Q ac)=TT at *;generalize mkM Q ac=MM at *;(simp(disch:=first|decide|omega|(intros;exact Eq.trans rfl rfl)|simp only[puri]) only[wkf,a29_1,a29,g1,htd,k3,List.length_map,go_sem,seval,dis,vdr,A.kind,A.xs,optX,A.isN])
           try simp[trim,errM,zeroM]
         ·have hmp:manPut (mkM Q ac)=([],1):=by unfold manPut;rw[if_neg k1]
          rw[hmp] at g1;simp only at g1;have hd:decM s=none:=by
           cases hd:decM s with
           | none=>rfl
           | some m=>exact absurd (by rw[hdM m hd];exact(dec_some hd).1) k1
          rw[hZn hd];generalize mkM Q ac=MM at *;(simp(disch:=first|decide|omega|(intros;exact Eq.trans rfl rfl)|simp only[puri]) only[wkf,a29_1,a29,g1,htd,List.length_map,go_sem,seval,dis,vdr,A.kind,A.xs,optX,A.isN])
          try simp[trim,errM,zeroM]
        ·have hbi:a<b.length:=by omega
         have gb:b[a]?=some b[a]:=List.getElem?_eq_getElem hbi;have hu:u8a b (a)=((b[a].toNat:Nat):Int):=by unfold u8a;rw[gb];rfl
         have hul:=UInt8.toNat_lt b[a];have e1:sumA b a 0=sumA b a 1*256+u8a b (a):=by simp only[sumA];try omega
         have hsb2:=sumA_bd b a 0;have hei:((a:Int)+0).toNat=a:=by omega
         have hK':=hK 0 (by decide) (by omega)
         rw[e1] at hK' hsb2;rw[hu] at hK' hsb2;generalize b[a]=bx at *;generalize sumA b a 1=ac at *;clear e1 hu;(simp(disch:=first|decide|omega|(intros;exact Eq.trans rfl rfl)|simp only[puri]) only[wkf,a29_1,hei,gb,List.length_map,go_sem,seval,dis,vdr,A.kind,A.xs,optX,A.isN])
         exact hK' _ _ hdM
        ·have hbi:a+1<b.length:=by omega
         have gb:b[a+1]?=some b[a+1]:=List.getElem?_eq_getElem hbi;have hu:u8a b (a+1)=((b[a+1].toNat:Nat):Int):=by unfold u8a;rw[gb];rfl
         have hul:=UInt8.toNat_lt b[a+1];have e1:sumA b a 1=sumA b a 2*256+u8a b (a+1):=by simp only[sumA];try omega
         have hsb2:=sumA_bd b a 1;have hei:((a:Int)+1).toNat=a+1:=by omega
         have hK':=hK 1 (by decide) (by omega)
         rw[e1] at hK' hsb2;rw[hu] at hK' hsb2;generalize b[a+1]=bx at *;generalize sumA b a 2=ac at *;clear e1 hu;(simp(disch:=first|decide|omega|(intros;exact Eq.trans rfl rfl)|simp only[puri]) only[wkf,a29_1,hei,gb,List.length_map,go_sem,seval,dis,vdr,A.kind,A.xs,optX,A.isN])
         exact hK' _ _ hdM
        ·have hbi:a+2<b.length:=by omega
         have gb:b[a+2]?=some b[a+2]:=List.getElem?_eq_getElem hbi;have hu:u8a b (a+2)=((b[a+2].toNat:Nat):Int):=by unfold u8a;rw[gb];rfl
         have hul:=UInt8.toNat_lt b[a+2];have e1:sumA b a 2=sumA b a 3*256+u8a b (a+2):=by simp only[sumA];try omega
         have hsb2:=sumA_bd b a 2;have hei:((a:Int)+2).toNat=a+2:=by omega
         have hK':=hK 2 (by decide) (by omega)
         rw[e1] at hK' hsb2;rw[hu] at hK' hsb2;generalize b[a+2]=bx at *;generalize sumA b a 3=ac at *;clear e1 hu;(simp(disch:=first|decide|omega|(intros;exact Eq.trans rfl rfl)|simp only[puri]) only[wkf,a29_1,hei,gb,List.length_map,go_sem,seval,dis,vdr,A.kind,A.xs,optX,A.isN])
         exact hK' _ _ hdM
        ·have hbi:a+3<b.length:=by omega
         have gb:b[a+3]?=some b[a+3]:=List.getElem?_eq_getElem hbi;have hu:u8a b (a+3)=((b[a+3].toNat:Nat):Int):=by unfold u8a;rw[gb];rfl
         have hul:=UInt8.toNat_lt b[a+3];have e1:sumA b a 3=sumA b a 4*256+u8a b (a+3):=by simp only[sumA];try omega
         have hsb2:=sumA_bd b a 3;have hei:((a:Int)+3).toNat=a+3:=by omega
         have hK':=hK 3 (by decide) (by omega)
         rw[e1] at hK' hsb2;rw[hu] at hK' hsb2;generalize b[a+3]=bx at *;generalize sumA b a 4=ac at *;clear e1 hu;(simp(disch:=first|decide|omega|(intros;exact Eq.trans rfl rfl)|simp only[puri]) only[wkf,a29_1,hei,gb,List.length_map,go_sem,seval,dis,vdr,A.kind,A.xs,optX,A.isN])
         exact hK' _ _ hdM
       ·have hno:decM s=none:=by
         cases hd:decM s with
         | none=>rfl
         | some m =>
          exfalso;obtain⟨p1,p2⟩:=hT m hd;have:=hdb m hd;rw[this,manBody_N,List.length_append,four_len,p2] at t3;omega
        rw[hZn hno];(simp(disch:=first|decide|omega|(intros;exact Eq.trans rfl rfl)|simp only[puri]) only[wkf,a29_0,a29,q1,c1,c2,hml,c6,eq_true c7,g1,decide_eq_false t3,go_sem,seval,dis,vdr,A.kind,A.xs,optX,A.isN])
        try simp[trim,errM,zeroM]
      ·rw[hZn hno];by_cases hwr:W+3<9223372036854775808
       ·(simp(disch:=first|decide|omega|(intros;exact Eq.trans rfl rfl)|simp only[puri]) only[wkf,a29_0,a29,q1,c1,c2,c6,t2,g1,hml,go_sem,seval,dis,vdr,A.kind,A.xs,optX,A.isN])
        try simp[trim,errM,zeroM]
       ·obtain⟨W3,hW3,hW4⟩:∃ W3:Int,IntKind.i64.wrap (W+3)=W3∧W3<0:=by
         refine⟨_,rfl,?_⟩;rw[IntWalk.i64_left];unfold RowKit.wrap64;omega
        have c5':¬ (Q.length:Int)=W3:=by omega
        (simp(disch:=first|decide|omega|(intros;exact Eq.trans rfl rfl)|simp only[puri]) only[wkf,a29_0,a29,q1,c1,c2,c6,hW3,c5',g1,hml,go_sem,seval,dis,vdr,A.kind,A.xs,optX,A.isN])
        try simp[trim,errM,zeroM]
   ·have hno:decM s=none:=by
     cases hd:decM s with
     | none=>rfl
     | some m =>
      exfalso;obtain⟨p1,p2,p3⟩:=h4 m hd;have:=manB_t (dec_some hd).1;rw[manN_len] at p1;omega
    obtain⟨Q,hQ⟩:∃ Q,Q=L1:=⟨_,rfl⟩;obtain⟨a,ha⟩:∃ a,a=a1:=⟨_,rfl⟩;rw[<- hQ] at h1 h3 hml ⊢;rw[<- ha] at h2 ⊢;rw[<- hQ] at c2;rw[<- ha] at c1;have hT:∀ m,decM s=some m->Q=manN m∧a=(numsE (manN m)).length:=fun m h=>by rw[hno] at h;cases h
    have hQb:Q.length<=101:=by omega
    have hab:a<=b.length:=h2;have hbd:=h3;clear hR h4;by_cases t1:Q.length<3
    ·exfalso;omega
    ·have c6:¬ (Q.length:Int)<3:=by omega
     have g1:(Q.map eI)[1]?=some [.i .i64 (Q.getD 1 0)]:=by rw[eI_get Q 1 (by omega),List.getD_eq_getElem?_getD,List.getElem?_eq_getElem (by omega)];rfl
     have hgd:=hbd _ (List.getElem_mem (show 1<Q.length by omega))
     have hgd2:Q.getD 1 0=Q[1]:=by rw[List.getD_eq_getElem?_getD,List.getElem?_eq_getElem (by omega)];rfl
     obtain⟨W,hW⟩:∃ W,W=Q.getD 1 0:=⟨_,rfl⟩;rw[<- hW] at g1 hgd2;by_cases t2:(Q.length:Int)=W+3
     ·have c3:3<=Q.length∧(Q.length:Int)=W+3:=⟨by omega,t2⟩
      have hgd3:0<=W∧W<=1000:=by omega
      have c6:¬ (Q.length:Int)<3:=by omega
      have c7:(Q.length:Int)=W+3:=by omega
      by_cases t3:(b.length:Int)-(a:Int)=4
      ·have g0:(Q.map eI)[0]?=some [.i .i64 (Q.headD 0)]:=by rw[eI_get Q 0 (by omega)];cases Q with|nil=>simp at c3|cons x r=>rfl
       have hQl:Q.length-1<Q.length:=by omega
       have gz:(Q.map eI)[Q.length-1]?=some [.i .i64 (Q.getLastD 0)]:=by
        rw[eI_get Q _ hQl];rw[List.getLastD_eq_getLast?,List.getLast?_eq_getElem?,List.getElem?_eq_getElem hQl];rfl
       have ek:((Q.length:Int)-1).toNat=Q.length-1:=by omega
       have htd:List.take (Q.length-1-2) (List.drop 2 (Q.map eI))=((Q.drop 2).take (Q.length-1-2)).map eI:=by rw[List.map_take,List.map_drop]
       obtain⟨qh,hqh⟩:∃ qh,qh=Q.headD 0:=⟨_,rfl⟩;obtain⟨ql,hql⟩:∃ ql,ql=Q.getLastD 0:=⟨_,rfl⟩;rw[<- hqh] at g0;rw[<- hql] at gz;have ek2:Q.length-1-2=Q.length-3:=by omega
       (simp(disch:=first|decide|omega|(intros;exact Eq.trans rfl rfl)|simp only[puri]) only[wkf,a29_0,a29,c1,c2,hml,c6,eq_true c7,g1,decide_eq_true t3,g0,gz,ek,go_sem,seval,dis,vdr,A.kind,A.xs,optX,A.isN])
       refine loop_boxM (m:=0) (σ:=Nat) (fun j=>j) (fun j=>j<=4) (fun j=>[vs s,V.one (.p 0 0),vs b,vi a,V.one (.p 1 0),vi ((j:Int)-1)])
        (fun j=>[.cells [.d (.i .i64 0),.ns,.d (.i .i64 0),.d (.i .u32 0)],.cells [.d (.i .i64 qh),.sl 2 1 2 (Q.length-1-2),.d (.i .i64 ql),.d (.i .u32 (sumA b a j))],.arr 1 (Q.map eI) 0]) (fun _=>(Z,[])) ?_ 4 (Nat.le_refl _) _ _ hdM
       clear g1 g0 gz;intro j hj K hK;have hsb:=sumA_bd b a j;rcases(by omega:j=0∨j=1∨j=2∨j=3∨j=4) with rfl|rfl|rfl|rfl|rfl
       ·obtain⟨ac,hac⟩:∃ ac,ac=sumA b a 0:=⟨_,rfl⟩;rw[<- hac] at hsb ⊢;have hMe:(mkM Q ac).l=[.d (.i .i64 qh),.d (.l (((Q.drop 2).take (Q.length-1-2)).map eI)),.d (.i .i64 ql),.d (.i .u32 ac)]:=by rw[hqh,hql];rfl
        have hMo:(mkM Q ac).ok:=⟨by simp[mkM];omega,hsb⟩
        have g1:=rmanPut_spec (mkM Q ac) hMo;rw[hMe] at g1;have hdM:∀ m,decM s=some m->mkM Q ac=m:=fun m h=>by
         obtain⟨p1,p2⟩:=hT m h;rw[hac,p2,hdb m h,sumA_man (dec_some h).1 (hok m h),p1,mk_man]
        have hmx:max 0 (2+(Q.length-1-2))<=Q.length:=by omega
        have hle:2+(Q.length-1-2)<=Q.length:=by omega
        by_cases k1:manB (mkM Q ac)=true
        ·have hmp:manPut (mkM Q ac)=(manText (mkM Q ac),0):=by unfold manPut;rw[if_pos k1]
         rw[hmp] at g1;simp only at g1;by_cases k2:manText (mkM Q ac)=s
         ·have hd:decM s=some (mkM Q ac):=by
           have:=dec_text k1 hMo;rw[k2] at this;exact this
          rw[hZs _ hd];have k3:(manText (mkM Q ac) == s)=true:=by simpa using k2
          unfold manV4;rw[hMe];rw[k2] at g1;generalize mkM Q ac=MM at *;(simp(disch:=first|decide|omega|(intros;exact Eq.trans rfl rfl)|simp only[puri]) only[wkf,a29_1,a29,g1,htd,List.length_map,go_sem,seval,dis,vdr,A.kind,A.xs,optX,A.isN])
          try simp[trim]
         ·have hd:decM s=none:=by
           cases hd:decM s with
           | none=>rfl
           | some m=>exact absurd (by rw[hdM m hd];exact(dec_some hd).2) k2
          rw[hZn hd];have k3:(manText (mkM Q ac) == s)=false:=by simpa using k2
          generalize manText (mkM Q ac)=TT at *;generalize mkM Q ac=MM at *;(simp(disch:=first|decide|omega|(intros;exact Eq.trans rfl rfl)|simp only[puri]) only[wkf,a29_1,a29,g1,htd,k3,List.length_map,go_sem,seval,dis,vdr,A.kind,A.xs,optX,A.isN])
          try simp[trim,errM,zeroM]
        ·have hmp:manPut (mkM Q ac)=([],1):=by unfold manPut;rw[if_neg k1]
         rw[hmp] at g1;simp only at g1;have hd:decM s=none:=by
          cases hd:decM s with
          | none=>rfl
          | some m=>exact absurd (by rw[hdM m hd];exact(dec_some hd).1) k1
         rw[hZn hd];generalize mkM Q ac=MM at *;(simp(disch:=first|decide|omega|(intros;exact Eq.trans rfl rfl)|simp only[puri]) only[wkf,a29_1,a29,g1,htd,List.length_map,go_sem,seval,dis,vdr,A.kind,A.xs,optX,A.isN])
         try simp[trim,errM,zeroM]
       ·have hbi:a<b.length:=by omega
        have gb:b[a]?=some b[a]:=List.getElem?_eq_getElem hbi;have hu:u8a b (a)=((b[a].toNat:Nat):Int):=by unfold u8a;rw[gb];rfl
        have hul:=UInt8.toNat_lt b[a];have e1:sumA b a 0=sumA b a 1*256+u8a b (a):=by simp only[sumA];try omega
        have hsb2:=sumA_bd b a 0;have hei:((a:Int)+0).toNat=a:=by omega
        have hK':=hK 0 (by decide) (by omega)
        rw[e1] at hK' hsb2;rw[hu] at hK' hsb2;generalize b[a]=bx at *;generalize sumA b a 1=ac at *;clear e1 hu;(simp(disch:=first|decide|omega|(intros;exact Eq.trans rfl rfl)|simp only[puri]) only[wkf,a29_1,hei,gb,List.length_map,go_sem,seval,dis,vdr,A.kind,A.xs,optX,A.isN])
        exact hK' _ _ hdM
       ·have hbi:a+1<b.length:=by omega
        have gb:b[a+1]?=some b[a+1]:=List.getElem?_eq_getElem hbi;have hu:u8a b (a+1)=((b[a+1].toNat:Nat):Int):=by unfold u8a;rw[gb];rfl
        have hul:=UInt8.toNat_lt b[a+1];have e1:sumA b a 1=sumA b a 2*256+u8a b (a+1):=by simp only[sumA];try omega
        have hsb2:=sumA_bd b a 1;have hei:((a:Int)+1).toNat=a+1:=by omega
        have hK':=hK 1 (by decide) (by omega)
        rw[e1] at hK' hsb2;rw[hu] at hK' hsb2;generalize b[a+1]=bx at *;generalize sumA b a 2=ac at *;clear e1 hu;(simp(disch:=first|decide|omega|(intros;exact Eq.trans rfl rfl)|simp only[puri]) only[wkf,a29_1,hei,gb,List.length_map,go_sem,seval,dis,vdr,A.kind,A.xs,optX,A.isN])
        exact hK' _ _ hdM
       ·have hbi:a+2<b.length:=by omega
        have gb:b[a+2]?=some b[a+2]:=List.getElem?_eq_getElem hbi;have hu:u8a b (a+2)=((b[a+2].toNat:Nat):Int):=by unfold u8a;rw[gb];rfl
        have hul:=UInt8.toNat_lt b[a+2];have e1:sumA b a 2=sumA b a 3*256+u8a b (a+2):=by simp only[sumA];try omega
        have hsb2:=sumA_bd b a 2;have hei:((a:Int)+2).toNat=a+2:=by omega
        have hK':=hK 2 (by decide) (by omega)
        rw[e1] at hK' hsb2;rw[hu] at hK' hsb2;generalize b[a+2]=bx at *;generalize sumA b a 3=ac at *;clear e1 hu;(simp(disch:=first|decide|omega|(intros;exact Eq.trans rfl rfl)|simp only[puri]) only[wkf,a29_1,hei,gb,List.length_map,go_sem,seval,dis,vdr,A.kind,A.xs,optX,A.isN])
        exact hK' _ _ hdM
       ·have hbi:a+3<b.length:=by omega
        have gb:b[a+3]?=some b[a+3]:=List.getElem?_eq_getElem hbi;have hu:u8a b (a+3)=((b[a+3].toNat:Nat):Int):=by unfold u8a;rw[gb];rfl
        have hul:=UInt8.toNat_lt b[a+3];have e1:sumA b a 3=sumA b a 4*256+u8a b (a+3):=by simp only[sumA];try omega
        have hsb2:=sumA_bd b a 3;have hei:((a:Int)+3).toNat=a+3:=by omega
        have hK':=hK 3 (by decide) (by omega)
        rw[e1] at hK' hsb2;rw[hu] at hK' hsb2;generalize b[a+3]=bx at *;generalize sumA b a 4=ac at *;clear e1 hu;(simp(disch:=first|decide|omega|(intros;exact Eq.trans rfl rfl)|simp only[puri]) only[wkf,a29_1,hei,gb,List.length_map,go_sem,seval,dis,vdr,A.kind,A.xs,optX,A.isN])
        exact hK' _ _ hdM
      ·have hno:decM s=none:=by
        cases hd:decM s with
        | none=>rfl
        | some m =>
         exfalso;obtain⟨p1,p2⟩:=hT m hd;have:=hdb m hd;rw[this,manBody_N,List.length_append,four_len,p2] at t3;omega
       rw[hZn hno];(simp(disch:=first|decide|omega|(intros;exact Eq.trans rfl rfl)|simp only[puri]) only[wkf,a29_0,a29,c1,c2,hml,c6,eq_true c7,g1,decide_eq_false t3,go_sem,seval,dis,vdr,A.kind,A.xs,optX,A.isN])
       try simp[trim,errM,zeroM]
     ·rw[hZn hno];by_cases hwr:W+3<9223372036854775808
      ·(simp(disch:=first|decide|omega|(intros;exact Eq.trans rfl rfl)|simp only[puri]) only[wkf,a29_0,a29,c1,c2,c6,t2,g1,hml,go_sem,seval,dis,vdr,A.kind,A.xs,optX,A.isN])
       try simp[trim,errM,zeroM]
      ·obtain⟨W3,hW3,hW4⟩:∃ W3:Int,IntKind.i64.wrap (W+3)=W3∧W3<0:=by
        refine⟨_,rfl,?_⟩;rw[IntWalk.i64_left];unfold RowKit.wrap64;omega
       have c5':¬ (Q.length:Int)=W3:=by omega
       (simp(disch:=first|decide|omega|(intros;exact Eq.trans rfl rfl)|simp only[puri]) only[wkf,a29_0,a29,c1,c2,c6,hW3,c5',g1,hml,go_sem,seval,dis,vdr,A.kind,A.xs,optX,A.isN])
       try simp[trim,errM,zeroM]
  ·have hno:decM s=none:=by
    cases hd:decM s with
    | none=>rfl
    | some m =>
     exfalso;obtain⟨p1,p2,p3⟩:=h4 m hd;have:=man_lt (m:=m) L1.length (by omega)
     rw[<- p3,<- hdb m hd] at this;omega
   obtain⟨Q,hQ⟩:∃ Q,Q=L1:=⟨_,rfl⟩;obtain⟨a,ha⟩:∃ a,a=a1:=⟨_,rfl⟩;rw[<- hQ] at h1 h3 hml ⊢;rw[<- ha] at h2 ⊢;rw[<- ha] at c1;have hT:∀ m,decM s=some m->Q=manN m∧a=(numsE (manN m)).length:=fun m h=>by rw[hno] at h;cases h
   have hQb:Q.length<=101:=by omega
   have hab:a<=b.length:=h2;have hbd:=h3;clear hR h4;by_cases t1:Q.length<3
   ·have t1':(Q.length:Int)<3:=by omega
    rw[hZn hno];(simp(disch:=first|decide|omega|(intros;exact Eq.trans rfl rfl)|simp only[puri]) only[wkf,a29_0,a29,c1,t1',hml,go_sem,seval,dis,vdr,A.kind,A.xs,optX,A.isN])
    try simp[trim,errM,zeroM]
   ·have c6:¬ (Q.length:Int)<3:=by omega
    have g1:(Q.map eI)[1]?=some [.i .i64 (Q.getD 1 0)]:=by rw[eI_get Q 1 (by omega),List.getD_eq_getElem?_getD,List.getElem?_eq_getElem (by omega)];rfl
    have hgd:=hbd _ (List.getElem_mem (show 1<Q.length by omega))
    have hgd2:Q.getD 1 0=Q[1]:=by rw[List.getD_eq_getElem?_getD,List.getElem?_eq_getElem (by omega)];rfl
    obtain⟨W,hW⟩:∃ W,W=Q.getD 1 0:=⟨_,rfl⟩;rw[<- hW] at g1 hgd2;by_cases t2:(Q.length:Int)=W+3
    ·have c3:3<=Q.length∧(Q.length:Int)=W+3:=⟨by omega,t2⟩
     have hgd3:0<=W∧W<=1000:=by omega
     have c6:¬ (Q.length:Int)<3:=by omega
     have c7:(Q.length:Int)=W+3:=by omega
     by_cases t3:(b.length:Int)-(a:Int)=4
     ·exfalso;omega
     ·have hno:decM s=none:=by
       cases hd:decM s with
       | none=>rfl
       | some m =>
        exfalso;obtain⟨p1,p2⟩:=hT m hd;have:=hdb m hd;rw[this,manBody_N,List.length_append,four_len,p2] at t3;omega
      rw[hZn hno];(simp(disch:=first|decide|omega|(intros;exact Eq.trans rfl rfl)|simp only[puri]) only[wkf,a29_0,a29,c1,hml,c6,eq_true c7,g1,decide_eq_false t3,go_sem,seval,dis,vdr,A.kind,A.xs,optX,A.isN])
      try simp[trim,errM,zeroM]
    ·rw[hZn hno];by_cases hwr:W+3<9223372036854775808
     ·(simp(disch:=first|decide|omega|(intros;exact Eq.trans rfl rfl)|simp only[puri]) only[wkf,a29_0,a29,c1,c6,t2,g1,hml,go_sem,seval,dis,vdr,A.kind,A.xs,optX,A.isN])
      try simp[trim,errM,zeroM]
     ·obtain⟨W3,hW3,hW4⟩:∃ W3:Int,IntKind.i64.wrap (W+3)=W3∧W3<0:=by
       refine⟨_,rfl,?_⟩;rw[IntWalk.i64_left];unfold RowKit.wrap64;omega
      have c5':¬ (Q.length:Int)=W3:=by omega
      (simp(disch:=first|decide|omega|(intros;exact Eq.trans rfl rfl)|simp only[puri]) only[wkf,a29_0,a29,c1,c6,hW3,c5',g1,hml,go_sem,seval,dis,vdr,A.kind,A.xs,optX,A.isN])
      try simp[trim,errM,zeroM]
 ·refine⟨errM e,?_,fun m h=>absurd (by have:=hdm m h;cases this;rfl) he,fun _=>⟨e,he,rfl⟩⟩
  apply enterS s29 rfl;(simp(disch:=first|decide|omega|(intros;exact Eq.trans rfl rfl)|simp only[puri]) only[wkf,a29,q0,he,go_sem,seval,dis])
  try simp[trim,errM,zeroM]
def eT (n:Txt):List D:=[.s n]
def namesF (l:List Fil):List Txt:=l.map Fil.name
theorem names_spec (d:Dsk) (hl:d.files.length<=1000000):call 68 [.agg d.l] []=some (vl ((namesF d.files).map eT),[]):=by
 have hZ:∃ Z,Z=vl ((namesF d.files).map eT):=⟨_,rfl⟩;obtain⟨Z,hZ⟩:=hZ;rw[<- hZ];obtain⟨fl,cp,ar,lf,dn⟩:=d;simp only[Dsk.l] at hl hZ ⊢;apply enterS s68 rfl;(simp(disch:=first|decide|omega|(intros;exact Eq.trans rfl rfl)|simp only[puri]) only[wkf,a68,go_sem,seval,dis])
 refine loop_boxM (m:=0) (σ:=Nat) (fun i=>fl.length-i) (fun i=>i<=fl.length) (fun i=>[V.one (.p 0 0),V.one (.sl 1 1 0 (fl.take i).length),vi i])
  (fun i=>[.cells [.d (.l (fl.map Fil.enc)),.d (.i .i64 cp),.d (.b ar),.d (.i .i64 lf),.d (.b dn)],.arr 1 ((namesF (fl.take i)).map eT) 0]) (fun _=>(Z,[])) ?_ 0 (Nat.zero_le _) _ _ hdM
 intro i h1 R hR;by_cases hi:i<fl.length
 ·have hc:(i:Int)<(fl.length:Int):=by omega
  have g1:(fl.map Fil.enc)[i]?=some fl[i].enc:=by rw[List.getElem?_map,List.getElem?_eq_getElem hi];rfl
  have hR':=hR (i+1) (by omega) (by omega)
  rw[List.take_succ_eq_append_getElem hi] at hR';have hlen:((namesF (fl.take i)).map eT).length=(fl.take i).length:=by simp[namesF]
  have hl2:(fl.take i).length<=1000000:=by simp;omega
  have e2:(namesF (fl.take i++[fl[i]])).map eT=(namesF (fl.take i)).map eT++[[.s fl[i].name]]:=by unfold namesF;rw[List.map_append,List.map_append];rfl
  have e3:(fl.take i++[fl[i]]).length=(fl.take i).length+1:=by rw[List.length_append];rfl
  rw[e2,e3] at hR';generalize (fl.take i).length=n at *;generalize (namesF (fl.take i)).map eT=Q at *;generalize fl[i]=f at *;obtain⟨a,b,c⟩:=f;simp only[Fil.enc] at g1;(simp(disch:=first|decide|omega|(intros;exact Eq.trans rfl rfl)|simp only[puri]) only[wkf,a68_0,decide_eq_true hc,g1,hlen,go_sem,seval,dis])
  exact hR' _ _ hdM
 ·have hc:¬ (i:Int)<(fl.length:Int):=by omega
  have ht:fl.take i=fl:=List.take_of_length_le (by omega)
  rw[ht];have htk:List.take fl.length ((namesF fl).map eT)=(namesF fl).map eT:=List.take_of_length_le (by simp[namesF])
  have hln:((namesF fl).map eT).length=fl.length:=by simp[namesF]
  rw[hZ];(simp(disch:=first|decide|omega|(intros;exact Eq.trans rfl rfl)|simp only[puri]) only[wkf,a68_0,a68,decide_eq_false hc,htk,hln,go_sem,seval,dis])
  try simp[trim]
def keepF (use:List Txt) (n:Txt):Bool:=use.any fun u=>decide (u=n)
def sweepG (use l:List Txt) (s:Dsk × Int):Dsk × Int:=goP (l.filter fun n => !keepF use n) s
theorem sweepG_cons (use l:List Txt) (n:Txt) (s:Dsk × Int):sweepG use (n::l) s=if keepF use n=true then sweepG use l s else sweepG use l (delS n s):=by
 unfold sweepG;by_cases c:keepF use n=true
 ·rw[if_pos c,List.filter_cons_of_neg (by simp[c])]
 ·rw[if_neg c,List.filter_cons_of_pos (by simpa using c),goP_cons]
def sweepT (use:List Txt) (d:Dsk):Dsk × Int:=sweepG use (namesF d.files) (d,0)
set_option maxRecDepth 8000 in
set_option maxHeartbeats 4000000 in
theorem rsweep_spec {k u:Nat} (d:Dsk) (hd:okN k u d) (hk:k<=900000) (hu:u<=900000000000) (use:List Txt) (hul:use.length<=1000000):call 34 [.agg d.l,vl (use.map eT)] []=some (dskV (sweepT use d),[]):=by
 have q1:=names_spec d (Nat.le_trans hd.len (by omega))
 have hnl:(namesF d.files).length<=1000000:=by have:=hd.len;simp[namesF];omega
 obtain⟨Z,hZ⟩:∃ Z,Z=sweepT use d:=⟨_,rfl⟩;rw[<- hZ];unfold sweepT at hZ;obtain⟨⟨zfl,zcp,zar,zlf,zdn⟩,ze⟩:=Z;generalize namesF d.files=NL at *;simp only[dskV,Dsk.l] at q1 ⊢;apply enterS s34 rfl;obtain⟨dfl,dcp,dar,dlf,ddn⟩:=d;(simp(disch:=first|decide|omega|(intros;exact Eq.trans rfl rfl)|simp only[puri]) only[wkf,a34,q1,go_sem,seval,dis])
 refine loop_boxM (m:=0) (σ:=Nat × Dsk) (fun t=>NL.length-t.1) (fun t=>t.1<=NL.length∧okN k u t.2∧sweepG use (NL.drop t.1) (t.2,0)=(⟨zfl,zcp,zar,zlf,zdn⟩,ze)) (fun t=>[vl (use.map eT),V.one (.p 0 0),V.one (.p 1 0),vl (NL.map eT),vi t.1])
  (fun t=>[.cells [.d (.l (t.2.files.map Fil.enc)),.d (.i .i64 t.2.cap),.d (.b t.2.armed),.d (.i .i64 t.2.left),.d (.b t.2.down)],.cells [.ns,.d (.i .i64 0),.d (.b false),.d (.i .i64 0),.d (.b false)]])
  (fun _=>(V.tup [(true,[.d (.l (zfl.map Fil.enc)),.d (.i .i64 zcp),.d (.b zar),.d (.i .i64 zlf),.d (.b zdn)]),(false,[.d (.i .i64 ze)])],[])) ?_ (0,⟨dfl,dcp,dar,dlf,ddn⟩) ⟨Nat.zero_le _,hd,hZ.symm⟩ _ _ hdM
 rintro⟨i,⟨fl,cp,ar,lf,dn⟩⟩ ⟨h1,h2,h3⟩ R hR;simp only at h1 h2 h3 ⊢;by_cases c:i<NL.length
 ·have hc:(i:Int)<(NL.length:Int):=by omega
  have hml:(NL.map eT).length=NL.length:=by simp
  have hul2:(use.map eT).length=use.length:=by simp
  rw[List.drop_eq_getElem_cons c,sweepG_cons] at h3;have g1:(NL.map eT)[i]?=some [.s NL[i]]:=by rw[List.getElem?_map,List.getElem?_eq_getElem c];rfl
  generalize NL[i]=n at *;have g2:=rdelete_spec ⟨fl,cp,ar,lf,dn⟩ (h2.ok (by omega) (by omega)) n
  have kk:=del_okN (s:=(⟨fl,cp,ar,lf,dn⟩,0)) h2 n;rw[show delS n (⟨fl,cp,ar,lf,dn⟩,0)=chgF ⟨fl,cp,ar,lf,dn⟩ (delR fl n) from stp_ye _ _] at kk h3
  simp only at g2;have hRy:=fun h=>hR (i+1,⟨fl,cp,ar,lf,dn⟩) (by simp only[];omega) ⟨by simp only[];omega,h2,h⟩
  have hRn:=fun h=>hR (i+1,(chgF ⟨fl,cp,ar,lf,dn⟩ (delR fl n)).1) (by simp only[];omega) ⟨by simp only[];omega,kk,h⟩
  generalize chgF ⟨fl,cp,ar,lf,dn⟩ (delR fl n)=q at *;obtain⟨⟨qfl,qcp,qar,qlf,qdn⟩,qe⟩:=q;simp only[dskV,Dsk.l] at g2 h3 hRy hRn;have hkf:keepF use n=(keepF (use.take 0) n || (use.drop 0).any fun u=>decide (u=n)):=by simp[keepF]
  (simp(disch:=first|decide|omega|(intros;exact Eq.trans rfl rfl)|simp only[puri]) only[wkf,a34_0,decide_eq_true hc,hml,go_sem,seval,dis])
  refine loop_boxM (m:=0) (σ:=Nat × Bool) (fun t=>use.length-t.1) (fun t=>t.1<=use.length∧keepF use n=(t.2 || (use.drop t.1).any fun u=>decide (u=n))) (fun t=>[vl (use.map eT),V.one (.p 0 0),V.one (.p 1 0),vl (NL.map eT),vi i,vb t.2,vi t.1])
   (fun _=>[.cells [.d (.l (fl.map Fil.enc)),.d (.i .i64 cp),.d (.b ar),.d (.i .i64 lf),.d (.b dn)],.cells [.ns,.d (.i .i64 0),.d (.b false),.d (.i .i64 0),.d (.b false)]])
   (fun _=>(V.tup [(true,[.d (.l (zfl.map Fil.enc)),.d (.i .i64 zcp),.d (.b zar),.d (.i .i64 zlf),.d (.b zdn)]),(false,[.d (.i .i64 ze)])],[])) ?_ (0,false) ⟨Nat.zero_le _,by simp[keepF]⟩ _ _ hdM
  clear hR hkf;rintro⟨j,kp⟩ ⟨j1,j2⟩ K hK;simp only at j1 j2 ⊢;by_cases cj:j<use.length
  ·have hcj:(j:Int)<(use.length:Int):=by omega
   have g3:(use.map eT)[j]?=some [.s use[j]]:=by rw[List.getElem?_map,List.getElem?_eq_getElem cj];rfl
   rw[List.drop_eq_getElem_cons cj,List.any_cons] at j2;generalize use[j]=w at *;cases kp with
   | true =>
    have hK':=hK (j+1,true) (by simp only[];omega) ⟨by simp only[];omega,by simpa using j2⟩
    (simp(disch:=first|decide|omega|(intros;exact Eq.trans rfl rfl)|simp only[puri]) only[wkf,a34_1,decide_eq_true hcj,hul2,go_sem,seval,dis,vdr,A.kind,A.xs,optX,A.isN])
    exact hK' _ _ hdM
   | false =>
    by_cases cw:w=n
    ·have hK':=hK (j+1,true) (by simp only[];omega) ⟨by simp only[];omega,by simpa[cw] using j2⟩
     have cwb:(w == n)=true:=by simpa using cw
     (simp(disch:=first|decide|omega|(intros;exact Eq.trans rfl rfl)|simp only[puri]) only[wkf,a34_1,decide_eq_true hcj,hul2,g3,g1,cwb,go_sem,seval,dis,vdr,A.kind,A.xs,optX,A.isN])
     exact hK' _ _ hdM
    ·have hK':=hK (j+1,false) (by simp only[];omega) ⟨by simp only[];omega,by simpa[cw] using j2⟩
     have cwb:(w == n)=false:=by simpa using cw
     (simp(disch:=first|decide|omega|(intros;exact Eq.trans rfl rfl)|simp only[puri]) only[wkf,a34_1,decide_eq_true hcj,hul2,g3,g1,cwb,go_sem,seval,dis,vdr,A.kind,A.xs,optX,A.isN])
     exact hK' _ _ hdM
  ·have hcj:¬ (j:Int)<(use.length:Int):=by omega
   rw[List.drop_eq_nil_of_le (by omega),List.any_nil,Bool.or_false] at j2
   cases kp with
   | true =>
    rw[if_pos j2] at h3;(simp(disch:=first|decide|omega|(intros;exact Eq.trans rfl rfl)|simp only[puri]) only[wkf,a34_1,a34_0,decide_eq_false hcj,hul2,go_sem,seval,dis,vdr,A.kind,A.xs,optX,A.isN])
    exact hRy h3 _ _ hdM
   | false =>
    rw[if_neg (by rw[j2];simp)] at h3
    by_cases c2:qe=0
    ·subst c2;(simp(disch:=first|decide|omega|(intros;exact Eq.trans rfl rfl)|simp only[puri]) only[wkf,a34_1,a34_0,decide_eq_false hcj,hul2,g1,g2,go_sem,seval,dis,vdr,A.kind,A.xs,optX,A.isN])
     exact hRn h3 _ _ hdM
    ·have e:sweepG use (NL.drop (i+1)) (⟨qfl,qcp,qar,qlf,qdn⟩,qe)=(⟨qfl,qcp,qar,qlf,qdn⟩,qe):=goP_err _ _ c2;rw[e] at h3;cases h3;(simp(disch:=first|decide|omega|(intros;exact Eq.trans rfl rfl)|simp only[puri]) only[wkf,a34_1,a34_0,decide_eq_false hcj,hul2,g1,g2,c2,go_sem,seval,dis,vdr,A.kind,A.xs,optX,A.isN])
     try simp[trim,c2]
 ·have hc:¬ (i:Int)<(NL.length:Int):=by omega
  have hml:(NL.map eT).length=NL.length:=by simp
  rw[List.drop_eq_nil_of_le (by omega)] at h3
  cases h3;(simp(disch:=first|decide|omega|(intros;exact Eq.trans rfl rfl)|simp only[puri]) only[wkf,a34_0,a34,decide_eq_false hc,hml,go_sem,seval,dis])
  try simp[trim]
def cutR (l:List Fil) (n:Txt) (k:Int):List Fil × Int:=if hasF l n=true then(if k<0∨((readF l n).1.length:Nat)<k then([],6) else(updF l (posF l n) (fun f=>{ f with data:=f.data.take k.toNat,sure:=if k<f.sure then k else f.sure }),0)) else([],7)
theorem rcut_spec (d:Dsk) (hd:d.ok) (n:Txt) (k:Int):call 35 [.agg d.l,vs n,vi k] []=some (dskV (chgF d (cutR d.files n k)),[]):=by
 apply enterS s35 rfl;have h2:=rfind_spec d hd.len hd.srt n;have h4:=rchange_spec d hd.left [] 7;have h6:=rchange_spec d hd.left [] 6;unfold cutR;cases c2:hasF d.files n with
 | false =>
  rw[if_neg (by simp)]
  rw[findI_no c2] at h2;generalize chgF d ([],7)=r at *;obtain⟨⟨f2,cp2,ar2,lf2,dn2⟩,e2⟩:=r;obtain⟨fl,cp,ar,lf,dn⟩:=d;simp only[dskV,Dsk.l,List.map_nil] at h2 h4 ⊢;(simp(disch:=first|decide|omega|(intros;exact Eq.trans rfl rfl)|simp only[puri]) only[wkf,a35,h2,h4,go_sem,seval,dis])
  try simp[trim]
 | true =>
  rw[if_pos rfl];rw[findI_yes c2] at h2;obtain⟨hp,he⟩:=has_at c2;have g1:(d.files.map Fil.enc)[posF d.files n]?=some d.files[posF d.files n].enc:=by simp[hp]
  have hdl:=data_le d.files _ hp;have hus:=hd.used;have hrd:(readF d.files n).1=d.files[posF d.files n].data:=by
   unfold readF;rw[List.getElem?_eq_getElem hp];simp only[if_pos he]
  rw[hrd];have h3:=with_spec d.files hd.len hd.srt { d.files[posF d.files n] with data:=d.files[posF d.files n].data.take k.toNat,sure:=if k<d.files[posF d.files n].sure then k else d.files[posF d.files n].sure }
  have h5:=wiF_yes hd.srt { d.files[posF d.files n] with data:=d.files[posF d.files n].data.take k.toNat,sure:=if k<d.files[posF d.files n].sure then k else d.files[posF d.files n].sure } (by simp only[he];exact c2)
  rw[h5] at h3;simp only[he] at h3;have hK:=rchange_spec d hd.left (d.files.set (posF d.files n) { d.files[posF d.files n] with data:=d.files[posF d.files n].data.take k.toNat,sure:=if k<d.files[posF d.files n].sure then k else d.files[posF d.files n].sure }) 0
  have hpl:=hd.len;rw[upd_at hp];generalize posF d.files n=p at *;simp only[he] at hK ⊢;generalize d.files[p]=f at *;obtain⟨fn,fd,fs⟩:=f;simp only at he h3 hK hdl ⊢;subst he;by_cases c:k<0∨((fd.length:Nat):Int)<k
  ·rw[if_pos c];generalize chgF d ([],6)=r at *;obtain⟨⟨f2,cp2,ar2,lf2,dn2⟩,e2⟩:=r;obtain⟨fl,cp,ar,lf,dn⟩:=d;simp only[dskV,Dsk.l,List.map_nil,Fil.enc] at h2 h6 g1 hp hpl ⊢;rcases c with c|c
   ·(simp(disch:=first|decide|omega|(intros;exact Eq.trans rfl rfl)|simp only[puri]) only[wkf,a35,h2,g1,decide_eq_true c,h6,go_sem,seval,dis])
    try simp[trim]
   ·have c0:¬ k<0:=by omega
    (simp(disch:=first|decide|omega|(intros;exact Eq.trans rfl rfl)|simp only[puri]) only[wkf,a35,h2,g1,decide_eq_false c0,decide_eq_true c,h6,go_sem,seval,dis])
    try simp[trim]
  ·rw[if_neg c];simp only[not_or] at c;have c0:0<=k:=by omega
   have c1:k<=(fd.length:Int):=by omega
   have hkt:k.toNat<=fd.length:=by omega
   obtain⟨fx,hfx⟩:∃ fx,fd.take k.toNat=fx:=⟨_,rfl⟩;obtain⟨fm_,hfm⟩:∃ fm_:Int,(if k<fs then k else fs)=fm_:=⟨_,rfl⟩
   rw[hfx,hfm] at h3 hK ⊢;generalize d.files.set p ⟨fn,fx,fm_⟩=q at *;generalize chgF d (q,0)=r at *;obtain⟨⟨f2,cp2,ar2,lf2,dn2⟩,e2⟩:=r;obtain⟨fl,cp,ar,lf,dn⟩:=d;have c1':¬ (fd.length:Int)<k:=by omega
   have c0':¬ k<0:=by omega
   simp only[dskV,Dsk.l,Fil.enc,List.map_cons,List.map_nil] at h2 h3 hK g1 hp hpl ⊢;(simp(disch:=first|decide|omega|(intros;exact Eq.trans rfl rfl)|simp only[puri]) only[wkf,a35,h2,g1,decide_eq_false c0',decide_eq_false c1',hfx,hfm,h3,hK,go_sem,seval,dis])
   try simp[trim]
def nmL (l:List Fil) (i:Nat):List (List D):=(l.take i).map (fun f=>[D.s f.name])++List.replicate (l.length-i) [D.s []]
theorem nmL_len (l:List Fil) (i:Nat) (h:i<=l.length):(nmL l i).length=l.length:=by simp[nmL];omega
theorem nmL_set (l:List Fil) (i:Nat) (h:i<l.length):(nmL l i).set i [.s l[i].name]=nmL l (i+1):=by
 unfold nmL;obtain⟨k,hk⟩:∃ k,l.length-i=k+1:=⟨l.length-i-1,by omega⟩
 have hk2:l.length-(i+1)=k:=by omega
 have hl:((l.take i).map (fun f=>[D.s f.name])).length=i:=by simp;omega
 rw[hk,hk2,List.take_succ_eq_append_getElem h,List.map_append,List.set_append,if_neg (by omega),hl,Nat.sub_self,List.replicate_succ,List.set_cons_zero,List.append_assoc]
 try rfl
theorem nmL_at (l:List Fil) (i:Nat) (h:i<l.length):(nmL l i)[i]?=some [D.s []]:=by
 unfold nmL;have hl:((l.take i).map (fun f=>[D.s f.name])).length=i:=by simp;omega
 rw[List.getElem?_append_right (by omega),hl,Nat.sub_self]
 obtain⟨k,hk⟩:∃ k,l.length-i=k+1:=⟨l.length-i-1,by omega⟩
 rw[hk];rfl
theorem pnames_spec (d:Dsk) (hl:d.files.length<=1000000):call 49 [.agg d.l] []=some (vl ((namesF d.files).map eT),[]):=by
 have hZ:∃ Z,Z=vl ((namesF d.files).map eT):=⟨_,rfl⟩;obtain⟨Z,hZ⟩:=hZ;rw[<- hZ];obtain⟨fl,cp,ar,lf,dn⟩:=d;simp only[Dsk.l] at hl hZ ⊢;have h0:List.replicate fl.length [D.s []]=nmL fl 0:=by simp[nmL]
 apply enterS s49 rfl;(simp(disch:=first|decide|omega|(intros;exact Eq.trans rfl rfl)|simp only[puri]) only[wkf,a49,List.length_map,h0,go_sem,seval,dis])
 refine loop_boxM (m:=0) (σ:=Nat) (fun i=>fl.length-i) (fun i=>i<=fl.length) (fun i=>[V.one (.sl 0 1 0 fl.length),vl (fl.map Fil.enc),vi fl.length,vi i])
  (fun i=>[.arr 1 (nmL fl i) 0]) (fun _=>(Z,[])) ?_ 0 (Nat.zero_le _) _ _ hdM
 intro i h1 R hR;have hln:=nmL_len fl i h1;by_cases hi:i<fl.length
 ·have hc:(i:Int)<(fl.length:Int):=by omega
  have g1:(fl.map Fil.enc)[i]?=some fl[i].enc:=by rw[List.getElem?_map,List.getElem?_eq_getElem hi];rfl
  have hR':=hR (i+1) (by omega) (by omega)
  rw[<- nmL_set fl i hi] at hR';generalize fl[i]=f at *;obtain⟨a,b,c⟩:=f;simp only[Fil.enc] at g1 hR';(simp(disch:=first|decide|omega|(intros;exact Eq.trans rfl rfl)|simp only[puri]) only[wkf,a49_0,decide_eq_true hc,g1,hln,nmL_at fl i hi,go_sem,seval,dis])
  exact hR' _ _ hdM
 ·have hc:¬ (i:Int)<(fl.length:Int):=by omega
  have hil:i=fl.length:=by omega
  subst hil;have htk:List.take fl.length (nmL fl fl.length)=(namesF fl).map eT:=by
   rw[List.take_of_length_le (by omega)];simp[nmL,namesF];intro a _;rfl
  rw[hZ];(simp(disch:=first|decide|omega|(intros;exact Eq.trans rfl rfl)|simp only[puri]) only[wkf,a49_0,a49,decide_eq_false hc,htk,hln,go_sem,seval,dis])
  try simp[trim]
set_option maxRecDepth 8000 in
theorem cut1_spec (l:List Fil) (hl:l.length<=1000000) (hu:usedF l<=1000000000000) (n:Txt) (k:Int):∃ B:Box,(∀ ρ,B.ren ρ=B)∧call 108 [.one (.sl 0 3 0 l.length),vi (posF l n:Nat),vb (hasF l n),.one (.p 1 0)] [.arr 3 (l.map Fil.enc) 0,.cells [.d (.i .i64 k)]]=some (twoV (cutR l n k).1 (cutR l n k).2,[B,.cells [.d (.i .i64 k)]]):=by
 unfold cutR twoV;cases c:hasF l n with
 | false =>
  refine⟨.arr 3 (l.map Fil.enc) 0,fun _=>rfl,?_⟩
  apply enterS s108 rfl;(simp(disch:=first|decide|omega|(intros;exact Eq.trans rfl rfl)|simp only[puri]) only[a108,go_sem,seval,dis])
  try simp[trim,V.refs,L.refs,Box.refs]
 | true =>
  obtain⟨hp,hnm⟩:=has_at c;have hrd:(readF l n).1=l[posF l n].data:=by
   unfold readF;rw[List.getElem?_eq_getElem hp];simp only[if_pos hnm]
  rw[upd_at hp,hrd];obtain⟨p,hk⟩:∃ p,p=posF l n:=⟨_,rfl⟩;simp only[<- hk,if_true] at hp hnm ⊢;have hle:=data_le l p hp;have g1:(l.map Fil.enc)[p]?=some l[p].enc:=by simp[hp]
  by_cases c1:k<0
  ·refine⟨.arr 3 (l.map Fil.enc) 0,fun _=>rfl,?_⟩
   apply enterS s108 rfl;rw[if_pos (.inl c1)];(simp(disch:=first|decide|omega|(intros;exact Eq.trans rfl rfl)|simp only[puri]) only[a108,c1,go_sem,seval,dis])
   try simp[trim,V.refs,L.refs,Box.refs]
  ·by_cases c2:((l[p].data.length:Nat):Int)<k
   ·refine⟨.arr 3 (l.map Fil.enc) 0,fun _=>rfl,?_⟩
    apply enterS s108 rfl;rw[if_pos (.inr c2)];(simp(disch:=first|decide|omega|(intros;exact Eq.trans rfl rfl)|simp only[puri]) only[a108,c1,c2,g1,Fil.len,Fil.at1,Fil.ix1,go_sem,seval,dis])
    try simp[trim,V.refs,L.refs,Box.refs]
   ·rw[if_neg (by omega)]
    have hset:(l.map Fil.enc).set p (Fil.enc { l[p] with data:=l[p].data.take k.toNat,sure:=if k<l[p].sure then k else l[p].sure })=(l.set p { l[p] with data:=l[p].data.take k.toNat,sure:=if k<l[p].sure then k else l[p].sure }).map Fil.enc:=by rw[List.map_set]
    refine⟨.arr 3 ((l.set p { l[p] with data:=l[p].data.take k.toNat,sure:=if k<l[p].sure then k else l[p].sure }).map Fil.enc) l.length,fun _=>rfl,?_⟩
    apply enterS s108 rfl;have hll:((l.set p { l[p] with data:=l[p].data.take k.toNat,sure:=if k<l[p].sure then k else l[p].sure }).map Fil.enc).length=l.length:=by simp
    have htk:((l.set p { l[p] with data:=l[p].data.take k.toNat,sure:=if k<l[p].sure then k else l[p].sure }).map Fil.enc).take l.length=(l.set p { l[p] with data:=l[p].data.take k.toNat,sure:=if k<l[p].sure then k else l[p].sure }).map Fil.enc:=List.take_of_length_le (by simp)
    have c0':(0:Int)<=k:=by omega
    have hlen:(l.map Fil.enc).length=l.length:=by simp
    generalize (l.set p { l[p] with data:=l[p].data.take k.toNat,sure:=if k<l[p].sure then k else l[p].sure }).map Fil.enc=Q at *
    generalize l[p]=f at *;obtain⟨fn,fd,fs⟩:=f;simp only[Fil.enc] at g1 hset c2;have gg:∀ r,(List.set (l.map Fil.enc) p r)[p]?=some r:=fun r=>by rw[List.getElem?_set_self (by simpa using hp)]
    have hss:∀ a b,(List.set (List.set (l.map Fil.enc) p a) p b)=List.set (l.map Fil.enc) p b:=fun a b=>List.set_set _
    (simp(disch:=first|decide|omega|(intros;exact Eq.trans rfl rfl)|simp only[puri]) only[wkf,a108,c1,c2,g1,gg,hss,hset,hll,htk,hlen,List.length_set,go_sem,seval,dis])
    try simp[trim,V.refs,L.refs,Box.refs]
theorem cut_disk (d:Dsk) (hd:d.ok) (n:Txt) (k:Int):call 58 [.agg d.l,vs n,vi k] []=some (dskV (chgF d (cutR d.files n k)),[]):=by
 apply enterS s58 rfl;have h0:=change1 d hd.len hd.srt hd.left n 108 [.d (.i .i64 k)] rfl (cutR d.files n k).1 (cutR d.files n k).2 (fun D R=>by
  obtain⟨B,hB,h⟩:=cut1_spec d.files hd.len hd.used n k;exact⟨B,fun _ _=>iso_at (ids:=[4,0]) rfl rfl rfl h (by simp[setAll,hB,twoV,V.ren,L.ren,rcells])⟩)
 have h:∀ D R:Box,callIso call 86 [.agg d.l,vs n,.one (.f 108 [1])] [D,.cells [.d (.i .i64 k)],R]=some (dskV (chgF d (cutR d.files n k)),[D,.cells [.d (.i .i64 k)],R]):=fun D R =>
  iso_at (ids:=[1]) rfl rfl rfl h0 rfl
 generalize chgF d (cutR d.files n k)=r at *;obtain⟨⟨f2,cp2,ar2,lf2,dn2⟩,e2⟩:=r;obtain⟨fl,cp,ar,lf,dn⟩:=d;simp only[dskV,Dsk.l] at h ⊢;(simp(disch:=first|decide|omega|(intros;exact Eq.trans rfl rfl)|simp only[puri]) only[wkf,a58,↓h,go_sem,seval,dis])
 try simp[trim]
def rdB (b:Txt) (s:Nat × Bool):List L:=[.d (.s b),.d (.i .i64 s.1),.d (.b s.2)]
def numT (b:Txt) (s:Nat × Bool):Nat × (Nat × Bool):=if s.2=true then(0,s) else match rdF (b.drop s.1) 0 0 with
 | some (v,j)=>(v,(s.1+j,false))
 | none=>(0,(0,true))
theorem number_spec (b:Txt) (hb:b.length<=1000000) (s:Nat × Bool) (hs:s.1<=1000000):call 102 [.one (.p 0 0)] [.cells (rdB b s)]=some (vi (numT b s).1,[.cells (rdB b (numT b s).2)]):=by
 obtain⟨a,e⟩:=s;unfold numT rdB;simp only at hs ⊢;apply enterS s102 rfl;cases e with
 | true =>
  (simp(disch:=first|decide|omega|(intros;exact Eq.trans rfl rfl)|simp only[puri]) only[wkf,a102,go_sem,seval,dis])
  try simp[trim,V.refs,L.refs,Box.refs]
 | false =>
  have q:=read_spec b a (by omega) (by omega)
  cases hr:rdF (b.drop a) 0 0 with
  | none =>
   rw[hr] at q;simp only[rdV] at q;(simp(disch:=first|decide|omega|(intros;exact Eq.trans rfl rfl)|simp only[puri]) only[wkf,a102,q,go_sem,seval,dis])
   try simp[trim,V.refs,L.refs,Box.refs]
  | some r =>
   obtain⟨v,j⟩:=r;rw[hr] at q;simp only[rdV] at q;(simp(disch:=first|decide|omega|(intros;exact Eq.trans rfl rfl)|simp only[puri]) only[wkf,a102,q,go_sem,seval,dis])
   try simp[trim,V.refs,L.refs,Box.refs]
theorem numT_len (b:Txt) (s:Nat × Bool) (h:s.1<=b.length):(numT b s).2.1<=b.length∧(numT b s).1<9223372036854775808:=by
 unfold numT;split
 ·exact⟨h,by simp⟩
 ·cases hr:rdF (b.drop s.1) 0 0 with
  | none=>exact⟨by simp,by simp⟩
  | some r =>
   obtain⟨v,j⟩:=r;have:=(rdF_enc0 hr).2.1;rw[List.length_drop] at this;exact⟨by simp only[];omega,rd_lt hr⟩
def sumS (b:Txt) (s:Nat × Bool):Int × (Nat × Bool):=if s.2=true∨((b.length:Nat):Int)-(s.1:Nat)≠4 then(0,(s.1,true)) else(sum4 (b.drop s.1),s)
theorem or32 (a b n:Nat) (ha:a<2 ^ n) (hb:b*2 ^ n+a<4294967296):binD .or (.i .u32 ((a:Nat):Int)) (.i .u32 ((b*2 ^ n:Nat):Int))=some (.i .u32 ((a+b*2 ^ n:Nat):Int)):=by
 simp only[binD,ne_eq,not_true_eq_false,if_false];have h1:∀ x:Nat,x<4294967296->BitVec.ofInt 32 ((x:Nat):Int)=BitVec.ofNat 32 x:=by
  intro x hx;apply BitVec.eq_of_toNat_eq;simp
 rw[show IntKind.u32.bits=32 from rfl,h1 _ (by omega),h1 _ (by omega)]
 have h2:(BitVec.ofNat 32 a ||| BitVec.ofNat 32 (b*2 ^ n)).toNat=a+b*2 ^ n:=by
  rw[BitVec.toNat_or,BitVec.toNat_ofNat,BitVec.toNat_ofNat,Nat.mod_eq_of_lt (by omega),Nat.mod_eq_of_lt (by omega),Nat.or_comm,<- Nat.shiftLeft_eq,<- Nat.shiftLeft_add_eq_or_of_lt ha,Nat.add_comm]
 rw[h2,wrap_u32 (by omega)]
theorem shl32 (c i:Nat) (hc:c<256) (hi:i<=3):binD .shl (.i .u32 ((c:Nat):Int)) (.i .u64 (8*((i:Nat):Int)))=some (.i .u32 ((c*2 ^ (8*i):Nat):Int))∧c*2 ^ (8*i)+2 ^ (8*i)<=4294967296:=by
 have h2:2 ^ (8*i)<=2 ^ 24:=Nat.pow_le_pow_right (by decide) (by omega)
 have h3:(c+1)*2 ^ (8*i)<=256*2 ^ 24:=Nat.mul_le_mul (by omega) h2
 have h4:(256:Nat)*2 ^ 24=4294967296:=by decide
 have h5:(c+1)*2 ^ (8*i)=c*2 ^ (8*i)+2 ^ (8*i):=by rw[Nat.add_mul,Nat.one_mul]
 refine⟨?_,by omega⟩
 have hp:0<2 ^ (8*i):=Nat.pow_pos (by decide)
 simp only[binD];rw[if_neg (by omega)]
 have e1:(8*((i:Nat):Int)).toNat=8*i:=by omega
 have e2:min (8*i) IntKind.u32.bits=8*i:=Nat.min_eq_left (by show 8*i<=32;omega)
 rw[e1,e2];have e3:((c:Nat):Int)*2 ^ (8*i)=((c*2 ^ (8*i):Nat):Int):=by simp
 rw[e3,wrap_u32 (by omega)]
def parN (l:Txt) (i:Nat):Nat:=(List.range i).foldl (fun n j=>n+(l.getD j 0).toNat*2 ^ (8*j)) 0
theorem parN_succ (l:Txt) (i:Nat):parN l (i+1)=parN l i+(l.getD i 0).toNat*2 ^ (8*i):=by
 unfold parN;rw[List.range_succ,List.foldl_append];rfl
theorem parN_lt (l:Txt):∀ i,parN l i<2 ^ (8*i)
 | 0=>by simp[parN]
 | i+1=>by
  have h:=parN_lt l i;have h1:=UInt8.toNat_lt (l.getD i 0);rw[parN_succ];have h2:((l.getD i 0).toNat+1)*2 ^ (8*i)<=256*2 ^ (8*i):=Nat.mul_le_mul_right _ (by omega)
  have h3:2 ^ (8*(i+1))=256*2 ^ (8*i):=by rw[Nat.mul_add,Nat.pow_add,Nat.mul_comm]
  rw[Nat.add_mul,Nat.one_mul] at h2;omega
theorem sum4_par (l:Txt) (h:l.length=4):sum4 l=((parN l 4:Nat):Int):=by
 match l,h with
 | [a,b,c,d],_ =>
  simp only[sum4,parN_succ];simp[parN];omega
set_option maxRecDepth 8000 in
theorem rsum_spec (b:Txt) (hb:b.length<=1000000) (s:Nat × Bool) (hs:s.1<=b.length):call 103 [.one (.p 0 0)] [.cells (rdB b s)]=some (vk .u32 (sumS b s).1,[.cells (rdB b (sumS b s).2)]):=by
 obtain⟨a,e⟩:=s;unfold sumS rdB;simp only at hs ⊢;apply enterS s103 rfl;cases e with
 | true =>
  rw[if_pos (.inl rfl)];(simp(disch:=first|decide|omega|(intros;exact Eq.trans rfl rfl)|simp only[puri]) only[wkf,a103,go_sem,seval,dis])
  try simp[trim,V.refs,L.refs,Box.refs]
 | false =>
  by_cases c:((b.length:Nat):Int)-(a:Nat)=4
  ·rw[if_neg (by simp[c])]
   have hd:(b.drop a).length=4:=by rw[List.length_drop];omega
   rw[sum4_par _ hd];obtain⟨Z,hZ⟩:∃ Z:V × Hp,Z=(vk .u32 ((parN (b.drop a) 4:Nat):Int),[.cells [.d (.s b),.d (.i .i64 a),.d (.b false)]]):=⟨_,rfl⟩;simp only;rw[<- hZ];(simp(disch:=first|decide|omega|(intros;exact Eq.trans rfl rfl)|simp only[puri]) only[wkf,a103,eq_true c,go_sem,seval,dis])
   refine loop_boxM (m:=1) (σ:=Nat) (fun i=>4-i) (fun i=>i<=4) (fun i=>[V.one (.p 0 0),vk .u32 ((parN (b.drop a) i:Nat):Int),vi i])
    (fun _=>[.cells [.d (.s b),.d (.i .i64 a),.d (.b false)]]) (fun _=>Z) ?_ 0 (by decide) _ _ hdM
   intro i h1 R hR;by_cases ci:i<4
   ·have hc:(i:Int)<4:=by omega
    have hbi:a+i<b.length:=by omega
    have g:b[a+i]?=some b[a+i]:=List.getElem?_eq_getElem hbi;have hg:(b.drop a).getD i 0=b[a+i]:=by rw[List.getD_eq_getElem?_getD,List.getElem?_drop,g];rfl
    have hei:((a:Int)+(i:Int)).toNat=a+i:=by omega
    have hR':=hR (i+1) (by omega) (by omega)
    rw[parN_succ,hg] at hR';have hlt:=parN_lt (b.drop a) i;have hb8:=UInt8.toNat_lt b[a+i];obtain⟨s1,s2⟩:=shl32 b[a+i].toNat i (by omega) (by omega)
    have s3:=or32 (parN (b.drop a) i) b[a+i].toNat (8*i) hlt (by omega)
    generalize b[a+i]=x at *;generalize parN (b.drop a) i=w at *;(simp(disch:=first|decide|omega|(intros;exact Eq.trans rfl rfl)|simp only[puri]) only[wkf,a103_0,decide_eq_true hc,hei,g,↓s1,↓s3,go_sem,seval,dis])
    exact hR' _ _ hdM
   ·have e4:i=4:=by omega
    subst e4;have hc:¬ ((4:Nat):Int)<4:=by omega
    rw[hZ];(simp(disch:=first|decide|omega|(intros;exact Eq.trans rfl rfl)|simp only[puri]) only[wkf,a103_0,a103,decide_eq_false hc,go_sem,seval,dis])
    try simp[trim,V.refs,L.refs,Box.refs]
  ·rw[if_pos (.inr c)];(simp(disch:=first|decide|omega|(intros;exact Eq.trans rfl rfl)|simp only[puri]) only[wkf,a103,eq_false c,go_sem,seval,dis])
   try simp[trim,V.refs,L.refs,Box.refs]
def readN (b:Txt):Nat->Nat × Bool->List Int × (Nat × Bool)
 | 0,s=>([],s)
 | k+1,s=>(((numT b s).1:Int)::(readN b k (numT b s).2).1,(readN b k (numT b s).2).2)
def getB (b:Txt) (bad:Bool):Option Man :=
 let r1:=numT b (0,bad)
 let r2:=numT b r1.2
 if 64<r2.1 then none else
  let r3:=readN b r2.1 r2.2
  let r4:=numT b r3.2
  let r5:=sumS b r4.2
  if(!r5.2.2 && manB ⟨r1.1,r3.1,r4.1,r5.1⟩)=true then some ⟨r1.1,r3.1,r4.1,r5.1⟩ else none
theorem numT_good {b:Txt} {s:Nat × Bool} (h:(numT b s).2.2=false):s.2=false∧b.drop s.1=enc128 (numT b s).1++b.drop (numT b s).2.1:=by
 unfold numT at h ⊢;by_cases c:s.2=true
 ·rw[if_pos c] at h;rw[c] at h;cases h
 ·rw[if_neg c] at h ⊢;cases hr:rdF (b.drop s.1) 0 0 with
  | none=>rw[hr] at h;cases h
  | some r =>
   obtain⟨v,j⟩:=r;obtain⟨_,_,_,h4⟩:=rdF_enc0 hr;refine⟨by simpa using c,?_⟩
   simp only;rw[<- h4,<- List.drop_drop,List.take_append_drop]
theorem readN_good {b:Txt}:∀ (k:Nat) (s:Nat × Bool),(readN b k s).2.2=false->s.2=false∧(readN b k s).1.length=k∧b.drop s.1=numsE (readN b k s).1++b.drop (readN b k s).2.1
 | 0,s,h=>⟨h,rfl,by simp[readN,numsE]⟩
 | k+1,s,h=>by
  obtain⟨h1,h2,h3⟩:=readN_good k (numT b s).2 h;obtain⟨h4,h5⟩:=numT_good h1;refine⟨h4,by simp[readN,h2],?_⟩
  simp only[readN];rw[h5,h3,numsE_cons];simp
theorem sumS_good {b:Txt} {s:Nat × Bool} (h:(sumS b s).2.2=false):s.2=false∧(b.drop s.1).length=4∧(sumS b s).1=sum4 (b.drop s.1):=by
 unfold sumS at h ⊢;split at h
 ·cases h
 ·rename_i c;simp only[not_or,ne_eq,Decidable.not_not] at c;rw[if_neg (by simp[c])]
  exact⟨by simpa using c.1,by rw[List.length_drop];omega,rfl⟩
theorem four_sum4 {l:Txt} (h:l.length=4):four (BitVec.ofNat 32 (sum4 l).toNat)=l∧0<=sum4 l∧sum4 l<4294967296:=by
 match l,h with
 | [a,b,c,d],_ =>
  have ha:=UInt8.toNat_lt a;have hb:=UInt8.toNat_lt b;have hc:=UInt8.toNat_lt c;have hd:=UInt8.toNat_lt d;obtain⟨n,hn⟩:∃ n:Nat,n=a.toNat+256*(b.toNat+256*(c.toNat+256*d.toNat)):=⟨_,rfl⟩;have e:sum4 [a,b,c,d]=((n:Nat):Int):=by simp only[sum4];rw[hn]
  rw[e];refine⟨?_,by omega,by omega⟩
  rw[Int.toNat_natCast];have hx:(BitVec.ofNat 32 n).toNat=n:=by rw[BitVec.toNat_ofNat];omega
  have e0:four (BitVec.ofNat 32 n)=[UInt8.ofNat (BitVec.ofNat 32 n).toNat,UInt8.ofNat (BitVec.ofNat 32 n >>> 8).toNat,UInt8.ofNat (BitVec.ofNat 32 n >>> 16).toNat,UInt8.ofNat (BitVec.ofNat 32 n >>> 24).toNat]:=rfl;rw[e0,BitVec.toNat_ushiftRight,BitVec.toNat_ushiftRight,BitVec.toNat_ushiftRight,hx,Nat.shiftRight_eq_div_pow,Nat.shiftRight_eq_div_pow,Nat.shiftRight_eq_div_pow];have f:∀ (x:UInt8) (k:Nat),k % 256=x.toNat->UInt8.ofNat k=x:=fun x k hk=>by
   apply UInt8.toNat_inj.1;rw[UInt8.toNat_ofNat'];exact hk
  rw[f a _ (by omega),f b _ (by omega),f c _ (by omega),f d _ (by omega)]
theorem nextF_inv {s t:Txt} (h:nextF s 0=(t,s.length,0)):s=frameF t:=by
 unfold nextF at h;split at h
 ·simp at h
 ·split at h
  ·simp at h
  ·rename_i m k hr;obtain⟨q1,q2,q3,_⟩:=take_drop_enc hr;split at h
   ·simp at h
   ·split at h
    ·simp at h
    ·rename_i hl;split at h
     ·rename_i hf;simp only[Prod.mk.injEq,Nat.zero_add,List.drop_zero] at h q1 hf;obtain⟨h1,h2,_⟩:=h;have hst:s.take (k+4+m)=s:=List.take_of_length_le (by omega)
      rw[hst] at h1 hf;have htl:t.length=m:=by rw[<- h1,List.length_drop];omega
      unfold frameF;rw[htl];have:s=s.take k++((s.take (k+4)).drop k++s.drop (k+4)):=by
       rw[List.drop_take];have e:(s.drop k).take (k+4-k)++s.drop (k+4)=s.drop k:=by
        rw[show k+4-k=4 by omega,<- List.drop_drop,List.take_append_drop]
       rw[e,List.take_append_drop]
      rw[h1] at this hf;conv=>lhs;rw[this]
      rw[q1,<- hf];simp
     ·simp at h
theorem dec_ok {s:Txt} {m:Man} (h:decM s=some m):m.ok:=by
 have h1:=manB_t (dec_some h).1;refine⟨by omega,?_⟩
 unfold decM at h;split at h
 ·cases h;unfold candM;have f:∀ l:Txt,0<=sum4 l∧sum4 l<4294967296:=by
   intro l;by_cases hl:l.length=4
   ·exact(four_sum4 hl).2
   ·have:sum4 l=0:=by
     match l,hl with
     | [],_=>rfl
     | [_],_=>rfl
     | [_,_],_=>rfl
     | [_,_,_],_=>rfl
     | [_,_,_,_],h=>exact absurd rfl h
     | _::_::_::_::_::_,_=>rfl
    omega
  split
  ·split
   ·exact f _
   ·simp
  ·simp
 ·cases h
theorem getB_some {b:Txt} {m:Man} (h:getB b false=some m):manB m=true∧manBody m=b:=by
 unfold getB at h;simp only at h;split at h
 ·cases h
 ·split at h
  ·rename_i hc;simp only[Bool.and_eq_true,Bool.not_eq_true'] at hc;cases h;refine⟨hc.2,?_⟩;obtain⟨g1,g2,g3⟩:=sumS_good hc.1;obtain⟨f1,f2⟩:=numT_good g1;obtain⟨e1,e2,e3⟩:=readN_good _ _ f1;obtain⟨d1,d2⟩:=numT_good e1;obtain⟨_,c2⟩:=numT_good d1;unfold manBody sumM;simp only[g3];rw[(four_sum4 g2).1];rw[List.drop_zero] at c2;conv=>rhs;rw[c2,d2,e3,f2]
   simp only[List.cons_append,numsE_cons,numsE_app,e2,Int.toNat_natCast];simp[numsE]
  ·cases h
theorem numT_man {m:Man} (h:manB m=true) (j:Nat) (hj:j<(manN m).length):numT (manBody m) ((numsE ((manN m).take j)).length,false)=((manN m)[j].toNat,((numsE ((manN m).take (j+1))).length,false)):=by
 obtain⟨h1,h2⟩:=man_read h j hj;unfold numT;rw[if_neg (by simp),h1,h2]
theorem readN_man {m:Man} (h:manB m=true):∀ (k j:Nat),j+k<=(manN m).length->readN (manBody m) k ((numsE ((manN m).take j)).length,false)=(((manN m).drop j).take k,((numsE ((manN m).take (j+k))).length,false))
 | 0,j,_=>by simp[readN]
 | k+1,j,hj=>by
  have h1:=numT_man h j (by omega)
  have hin:=manN_in h _ (List.getElem_mem (show j<(manN m).length by omega))
  simp only[readN,h1,readN_man h k (j+1) (by omega)]
  rw[List.drop_eq_getElem_cons (show j<(manN m).length by omega),List.take_succ_cons,show j+(k+1)=j+1+k by omega]
  congr 2
  omega
theorem getB_man {m:Man} (h:manB m=true) (hm:m.ok):getB (manBody m) false=some m:=by
 have hmt:=manB_t h;have hl:=manN_len m;have n0:=numT_man h 0 (by omega)
 have n1:=numT_man h 1 (by omega)
 have n2:=readN_man h m.segs.length 2 (by omega)
 have n3:=numT_man h (m.segs.length+2) (by omega)
 have e0:(manN m)[0]'(by omega)=m.ver:=rfl
 have e1:(manN m)[1]'(by omega)=(m.segs.length:Int):=rfl
 have e2:((manN m).drop 2).take m.segs.length=m.segs:=by simp[manN]
 have e3:(manN m)[m.segs.length+2]'(by omega)=m.size:=by
  have:manN m=(m.ver::(m.segs.length:Int)::m.segs)++[m.size]:=rfl;simp[this]
 rw[e0] at n0;rw[e1] at n1;rw[e2] at n2;rw[e3] at n3;simp only[List.take_zero,numsE,List.flatMap_nil,List.length_nil,Nat.zero_add,Nat.reduceAdd,Int.toNat_natCast] at n0 n1 n2 n3;rw[Nat.add_comm 2 m.segs.length] at n2;have hall:(manN m).take (m.segs.length+2+1)=manN m:=List.take_of_length_le (by omega)
 rw[hall] at n3;have hb:manBody m=numsE (manN m)++four (sumM m):=manBody_N m;have n4:sumS (manBody m) ((numsE (manN m)).length,false)=(m.sum,((numsE (manN m)).length,false)):=by
  have hd:(manBody m).drop (numsE (manN m)).length=four (sumM m):=by rw[hb,List.drop_left]
  unfold sumS;rw[if_neg (by rw[hb,List.length_append,four_len];simp;omega),hd,sum4_four,man_sum hm]
 unfold getB;simp only[n0,n1];rw[if_neg (by omega)]
 simp only[n2,n3];simp only[numsE] at n4;simp only[n4];have v1:((m.ver.toNat:Nat):Int)=m.ver:=by omega
 have v2:((m.size.toNat:Nat):Int)=m.size:=by omega
 rw[v1,v2];exact if_pos (by rw[h];rfl)
theorem numT_bad (b:Txt) (a:Nat):numT b (a,true)=(0,(a,true)):=by unfold numT;rw[if_pos rfl]
theorem getB_bad (b:Txt):getB b true=none:=by
 unfold getB;simp only[numT_bad];rw[if_neg (by omega)]
 simp only[readN,numT_bad];rw[if_neg];intro h;simp only[Bool.and_eq_true,Bool.not_eq_true'] at h;have:=sumS_good h.1;cases this.1
def getT (s:Txt):Option Man:=if(nextF s 0).2.2≠0 then none else getB (nextF s 0).1 (decide (((nextF s 0).2.1:Int)≠(s.length:Nat)))
theorem getT_dec (s:Txt):getT s=decM s:=by
 cases hd:decM s with
 | some m =>
  obtain⟨h1,h2⟩:=dec_some hd;have h3:=next_man h1;rw[h2] at h3;unfold getT;rw[h3];simp only[ne_eq,not_true_eq_false,if_false,decide_false];exact getB_man h1 (dec_ok hd)
 | none =>
  cases hg:getT s with
  | none=>rfl
  | some m =>
   exfalso;unfold getT at hg;split at hg
   ·cases hg
   ·rename_i he;simp only[ne_eq,Decidable.not_not] at he;by_cases c:(nextF s 0).2.1=s.length
    ·have e1:nextF s 0=((nextF s 0).1,s.length,0):=by rw[<- c,<- he]
     rw[decide_eq_false (by simp[c])] at hg
     obtain⟨g1,g2⟩:=getB_some hg;have hs:=nextF_inv e1;have:manText m=s:=by unfold manText;rw[g2];exact hs.symm
     have hso:m.ok:=by
      have h1:=manB_t g1;refine⟨by omega,?_⟩
      unfold getB at hg;simp only at hg;split at hg
      ·cases hg
      ·split at hg
       ·rename_i hc;simp only[Bool.and_eq_true,Bool.not_eq_true'] at hc;cases hg;obtain⟨_,k2,k3⟩:=sumS_good hc.1;simp only[k3];exact(four_sum4 k2).2
       ·cases hg
     have h4:=dec_text g1 hso;rw[this,hd] at h4;cases h4
    ·rw[decide_eq_true (by omega),getB_bad] at hg
     cases hg
end Go.Proofs.YtghfhomfppbooaaGreat
