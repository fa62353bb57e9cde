import Derived.Test.YtgoifbjgmgbihaaGreatT03
import Derived.Test.YtgoifbjgmgbihaaGreatT02
set_option linter.unusedSimpArgs false
set_option linter.unusedVariables false
set_option maxRecDepth 20000
set_option maxHeartbeats 16000000
namespace Go.Proofs.YtgoifbjgmgbihaaGreat
open Go.Vi
theorem tc (s:Sto):(co s).1.next=s.next:=by
 unfold co aT jB;split
 ·rfl
 ·split
  ·rfl
  ·split <;> rfl
theorem KU (l:List Seg):l.dropLast.map Seg.enc=(l.map Seg.enc).take (l.length-1):=by
 rw[List.map_dropLast,List.dropLast_eq_take,zM]
theorem Ik (l:List Seg) (k:Nat):aR 3 ((l.map Seg.enc).take k)=true:=by
 rw[<- List.map_take];exact aV Seg.len _
theorem qc {k u:Nat} (s t:Sto) (h:okS k u s) (ht:okS k u t) (hn:t.next<1099511627776) (hk:k<=800000) (hu:u<=800000000000) (seg:Int) (r:Rec) (tx:Txt) (hx:tx.length<=90)
  (q1:call 99 [.agg (r.enc.map .d)] []=some (.tup [(false,[zS tx]),(false,[zI 0])],[])) (c2:r.at_=s.next) (c3:s.next<1099511627776)
  (hc:(seg<=s.last.size∧co s=(t,0))∨(¬ seg<=t.last.size∧t=s)) :
  call 84 [.agg s.l,vi seg,.agg (r.enc.map .d)] []=some (dA (fN t tx),[]):=by
 have q2:=jP s s.last (by have:=h.len;omega) (pN h.len.1)
 have q3:=uw s h hk hu;have q5:=jP t t.last (by have:=ht.len;omega) (pN ht.len.1)
 have q6:=ky (ht.seg _ (ox ht.len.1)).1;have q7:=jf t.disk (ht.dsk.ok (by omega) (by omega)) (fileN t.last.base) tx (by omega)
 have q8:=fun d:Dsk=>jP { t with disk:=d } t.last (by have:=ht.len;show t.segs.length<=_;omega) (pN ht.len.1)
 have hsz:=(ht.seg _ (ox ht.len.1)).2;have hlen:=ht.len;have hnx:=ht.next;have hdl:=KU t.segs;have hok:=Ik t.segs (t.segs.length-1);have hb:=t9 (n:=t.segs.length) (k:=t.segs.length-1) (by omega)
 have hki:((t.segs.length:Int)-1)=((t.segs.length-1:Nat):Int):=by omega
 unfold fN y6;simp only[];generalize am t.disk (bH t.disk.files t.disk.cap (fileN t.last.base) tx)=d at *;have q8:=q8 d.1;generalize fileN t.last.base=N at *;generalize t.last=g at *;generalize s.last=g0 at *;generalize co s=rr at *;obtain⟨b,n,z⟩:=g;obtain⟨b0,n0,z0⟩:=g0;obtain⟨⟨fl,cp,ar,lf,dn⟩,ver,segs,next,sure,size,sum⟩:=s;obtain⟨⟨fl1,cp1,ar1,lf1,dn1⟩,ver1,segs1,next1,sure1,size1,sum1⟩:=t;obtain⟨⟨fl2,cp2,ar2,lf2,dn2⟩,e2⟩:=d;obtain⟨at_,ti,da⟩:=r;simp only[Rec.enc,Seg.enc,List.map_cons,List.map_nil,Sto.l,Dsk.l,aP,List.cons_append,List.nil_append] at q1 q2 q3 q5 q6 q7 q8 c2 c3 hn hsz hlen hnx hdl hok hb hki hc ⊢;subst c2;have c3':¬ 1099511627776<=at_:=by omega
 obtain⟨Q,hQ⟩:∃ Q,(segs1.map Seg.enc).take (segs1.length-1)=Q:=⟨_,rfl⟩;have hQl:Q.length<=64:=by rw[<- hQ];simp;omega
 rw[hQ] at hok hdl;apply ah NO rfl;rcases hc with⟨c4,rfl⟩|⟨c4,he⟩
 ·simp only[dA,Sto.l,Dsk.l,List.cons_append,List.nil_append] at q3;by_cases c5:e2=0
  ·subst c5;(simp(disch:=first|decide|omega|(intros;exact aj rfl rfl)|simp only[aa]) only[aF,IC,q1,c3',q2,c4,q3,q5,q6,q7,q8,hki,hb,hok,hQ,go_sem,seval,ak,bI,A.kind,A.xs,aD,A.isN])
   try simp[trim,dA,Sto.l,Dsk.l,hdl,Seg.enc]
  ·(simp(disch:=first|decide|omega|(intros;exact aj rfl rfl)|simp only[aa]) only[aF,IC,q1,c3',q2,c4,q3,q5,q6,q7,q8,c5,go_sem,seval,ak,bI,A.kind,A.xs,aD,A.isN])
   try simp[trim,c5,dA,Sto.l,Dsk.l]
 ·simp only[Sto.mk.injEq,Dsk.mk.injEq] at he;obtain⟨⟨rfl,rfl,rfl,rfl,rfl⟩,rfl,rfl,rfl,rfl,rfl,rfl⟩:=he;clear q2 q3;by_cases c5:e2=0
  ·subst c5;(simp(disch:=first|decide|omega|(intros;exact aj rfl rfl)|simp only[aa]) only[aF,IC,q1,c3',c4,q5,q6,q7,q8,hki,hb,hok,hQ,go_sem,seval,ak,bI,A.kind,A.xs,aD,A.isN])
   try simp[trim,dA,Sto.l,Dsk.l,hdl,Seg.enc]
  ·(simp(disch:=first|decide|omega|(intros;exact aj rfl rfl)|simp only[aa]) only[aF,IC,q1,c3',c4,q5,q6,q7,q8,c5,go_sem,seval,ak,bI,A.kind,A.xs,aD,A.isN])
   try simp[trim,c5,dA,Sto.l,Dsk.l]
theorem z7 {k u:Nat} (s:Sto) (h:okS k u s) (hk:k<=700000) (hu:u<=700000000000) (seg:Int) (r:Rec) (hr:r.ok):call 84 [.agg s.l,vi seg,.agg (r.enc.map .d)] []=some (dA (eg s seg r),[]):=by
 have q1:=xN r hr;have hpl:=yD r;have e1:putR r=.tup [(false,[.d (.s (dS r).1)]),(false,[.d (.i .i64 (dS r).2)])]:=by unfold putR dS;split <;> rfl
 rw[e1] at q1;unfold eg;generalize dS r=p at *;obtain⟨tx,pe⟩:=p;simp only at q1 hpl ⊢;by_cases c1:pe=0
 ·subst c1;by_cases c2:r.at_=s.next
  ·rw[if_neg (by simp[c2])]
   by_cases c3:1099511627776<=s.next
   ·rw[if_pos c3];obtain⟨⟨fl,cp,ar,lf,dn⟩,ver,segs,next,sure,size,sum⟩:=s;obtain⟨at_,ti,da⟩:=r;simp only[Rec.enc,List.map_cons,List.map_nil] at q1 c2 c3 ⊢;subst c2;apply ah NO rfl;(simp(disch:=first|decide|omega|(intros;exact aj rfl rfl)|simp only[aa]) only[aF,IC,q1,c3,dA,Sto.l,Dsk.l,go_sem,seval,ak])
    try simp[trim]
   ·rw[if_neg c3];by_cases c4:seg<=s.last.size
    ·rw[if_pos c4];by_cases c5:(co s).2=0
     ·rw[if_neg (by simp[c5])]
      have hn:(co s).1.next=s.next:=tc s;exact qc (k:=k+2) (u:=u+800) s (co s).1 (h.up (by omega) (by omega)) (rI h) (by rw[hn];omega) (by omega) (by omega) seg r tx hpl q1 c2 (by omega) (.inl ⟨c4,by rw[<- c5]⟩)
     ·rw[if_pos c5];have q2:=jP s s.last (by have:=h.len;omega) (pN h.len.1)
      have q3:=uw s h (by omega) (by omega)
      generalize co s=t at *;generalize s.last=g at *;obtain⟨b,n,z⟩:=g;obtain⟨⟨fl,cp,ar,lf,dn⟩,ver,segs,next,sure,size,sum⟩:=s;obtain⟨⟨⟨fl1,cp1,ar1,lf1,dn1⟩,ver1,segs1,next1,sure1,size1,sum1⟩,e⟩:=t;obtain⟨at_,ti,da⟩:=r;simp only[Rec.enc,Seg.enc,List.map_cons,List.map_nil,Sto.l,Dsk.l,dA,List.cons_append,List.nil_append] at q1 q2 q3 c2 c3 c4 c5 ⊢;subst c2;apply ah NO rfl;(simp(disch:=first|decide|omega|(intros;exact aj rfl rfl)|simp only[aa]) only[aF,IC,q1,c3,q2,c4,q3,c5,go_sem,seval,ak])
      try simp[trim,c5]
    ·rw[if_neg c4];exact qc (k:=k) (u:=u) s s h h (by omega) (by omega) (by omega) seg r tx hpl q1 c2 (by omega) (.inr ⟨c4,rfl⟩)
  ·rw[if_pos (.inr c2)];obtain⟨⟨fl,cp,ar,lf,dn⟩,ver,segs,next,sure,size,sum⟩:=s;obtain⟨at_,ti,da⟩:=r;simp only[Rec.enc,List.map_cons,List.map_nil] at q1 c2 ⊢;apply ah NO rfl;(simp(disch:=first|decide|omega|(intros;exact aj rfl rfl)|simp only[aa]) only[aF,IC,q1,c2,dA,Sto.l,Dsk.l,go_sem,seval,ak])
   try simp[trim]
 ·rw[if_pos (.inl c1)];obtain⟨⟨fl,cp,ar,lf,dn⟩,ver,segs,next,sure,size,sum⟩:=s;obtain⟨at_,ti,da⟩:=r;simp only[Rec.enc,List.map_cons,List.map_nil] at q1 ⊢;apply ah NO rfl;(simp(disch:=first|decide|omega|(intros;exact aj rfl rfl)|simp only[aa]) only[aF,IC,q1,c1,dA,Sto.l,Dsk.l,go_sem,seval,ak])
  try simp[trim]
theorem pd (l:List Fil) (n:Txt):(bZ l n).1.length<=usedF l:=by
 unfold bZ;split
 ·rename_i f hf;split
  ·obtain⟨h,rfl⟩:=List.getElem?_eq_some_iff.1 hf;have h1:=mn l (ax l n+1);rw[zO h,cK,gI] at h1;simp only[];omega
  ·simp
 ·simp
def Sto.floor (s:Sto):Int:=match s.segs with|[]=>0|g::_=>g.base
def Sto.txt (s:Sto) (g:Seg):Txt:=(bZ s.disk.files (fileN g.base)).1
def hasD (l:List Fil) (n d:Txt):Prop:=∃ f∈l,f.name=n∧f.data=d
theorem oY {l:List Fil} {n d:Txt} (hs:srt l) (h:hasD l n d):bZ l n=(d,0):=by
 obtain⟨f,hf,rfl,rfl⟩:=h;obtain⟨i,hi,rfl⟩:=zJ hf;unfold bZ;rw[Gp hs i hi,zE hi];simp
theorem Bz {d:Dsk} {r:List Fil × Int} (h:(am d r).2=0):r.2=0∧(am d r).1.files=r.1:=by
 unfold am at h ⊢;split at h
 ·cases h
 ·rename_i h1;split at h
  ·rename_i h2;exact absurd h h2
  ·rename_i h2;rw[if_neg h1,if_neg h2];split at h
   ·rename_i h3;split at h
    ·cases h
    ·rename_i h4;rw[if_pos h3,if_neg h4];exact⟨by simpa using h2,rfl⟩
   ·rename_i h3;rw[if_neg h3];exact⟨by simpa using h2,rfl⟩
theorem la {d:Dsk} {r:List Fil × Int} {n x:Txt} (h:hasD d.files n x) (hr:r.2=0->hasD r.1 n x):hasD (am d r).1.files n x:=by
 unfold am;split
 ·exact h
 ·split
  ·exact h
  ·rename_i h2;have h3:=hr (by simpa using h2)
   split
   ·split
    ·exact h
    ·exact h3
   ·exact h3
theorem xh {l:List Fil} {n x:Txt} (k:Nat) (g:Fil) (h:hasD l n x):hasD (gP l k g) n x:=by
 obtain⟨f,hf,h1⟩:=h;refine⟨f,?_,h1⟩;unfold gP;rw[<- zY k l] at hf;rcases zX.1 hf with hf|hf
 ·exact List.mem_append_left _ hf
 ·exact List.mem_append_right _ (List.mem_cons_of_mem _ hf)
theorem J2 (l:List Fil) (k:Nat) (g:Fil):hasD (gP l k g) g.name g.data:=⟨g,by unfold gP;simp,rfl,rfl⟩
theorem sm {l:List Fil} {n x:Txt} (k:Nat) (hk:k<l.length) (g:Fil) (h:hasD l n x) (hn:l[k].name≠n):hasD (l.set k g) n x:=by
 obtain⟨f,hf,h1,h2⟩:=h;obtain⟨i,hi,rfl⟩:=zJ hf;have hne:k≠i:=fun e=>by subst e;exact hn h1
 refine⟨l[i],?_,h1,h2⟩;have e:l[i]=(l.set k g)[i]'(by simpa using hi):=by rw[List.getElem_set_ne hne]
 rw[e];exact zN _
theorem EM {l:List Fil} {k:Nat} (hk:k<l.length) (g:Fil):g∈l.set k g:=by
 have hm:(l.set k g)[k]'(by simpa using hk)∈l.set k g:=zN _
 rwa [List.getElem_set_self] at hm
theorem B5 {l:List Fil} (k:Nat) (hk:k<l.length) (g:Fil):hasD (l.set k g) g.name g.data:=by
 exact⟨g,EM hk g,rfl,rfl⟩
theorem xU {l:List Fil} {n x:Txt} (k:Nat) (hk:k<l.length) (h:hasD l n x) (hn:l[k].name≠n):hasD (eR l k) n x:=by
 obtain⟨f,hf,h1,h2⟩:=h;refine⟨f,?_,h1,h2⟩;have e:l=l.take k++([l[k]]++l.drop (k+1)):=by rw[List.singleton_append,<- zD hk,zY]
 rw[e] at hf;unfold eR;rcases zX.1 hf with hf|hf
 ·exact List.mem_append_left _ hf
 ·rcases zX.1 hf with hf|hf
  ·rw[zV.1 hf] at h1;exact absurd h1 hn
  ·exact List.mem_append_right _ hf
theorem lx {s:Dsk × Int} {f:Dsk->Dsk × Int} {n x:Txt} (h:hasD s.1.files n x) (hf:hasD (f s.1).1.files n x):hasD (uL s f).1.files n x:=by
 unfold uL;split
 ·exact hf
 ·exact h
theorem xq {s:Dsk × Int} {n x:Txt} (m:Txt) (h:hasD s.1.files n x):hasD (bL m s).1.files n x:=by
 refine lx h (la h fun h0=>?_)
 unfold bh at h0 ⊢;split at h0
 ·rename_i h1;split at h0
  ·cases h0
  ·rename_i h2;rw[if_pos h1,if_neg h2];exact xh _ _ h
 ·cases h0
theorem sE {s:Dsk × Int} {n x m:Txt} (hm:m≠n) (h:hasD s.1.files n x):hasD (dw m s).1.files n x:=by
 refine lx h (la h fun h0=>?_)
 unfold bO at h0 ⊢;split at h0
 ·rename_i h1;obtain⟨hp,he⟩:=cd h1;rw[if_pos h1];exact xU _ hp h (by rw[he];exact hm)
 ·cases h0
theorem xw {s:Dsk × Int} {n x:Txt} (hs:srt s.1.files) (m:Txt) (h:hasD s.1.files n x):hasD (fO m s).1.files n x:=by
 refine lx h (la h fun h0=>?_)
 unfold cq at h0 ⊢;split at h0
 ·rename_i h1;obtain⟨hp,he⟩:=cd h1;rw[if_pos h1,jG hp];by_cases hm:m=n
  ·have hr:=oY hs h;unfold bZ at hr;rw[<- hm,zE hp] at hr;simp only[he,if_true,Prod.mk.injEq,and_true] at hr;refine(?_:∀ G:Fil,G.name=n->G.data=x->hasD (s.1.files.set (ax s.1.files m) G) n x) _ (he.trans hm) hr;rintro G rfl rfl;exact B5 _ hp G
  ·exact sm _ hp _ h (by rw[he];exact hm)
 ·cases h0
theorem xH {s:Dsk × Int} {n x m:Txt} (hm:m≠n) (t:Txt) (h:hasD s.1.files n x):hasD (fD m t s).1.files n x:=by
 refine lx h (la h fun h0=>?_)
 unfold bH at h0 ⊢;split at h0
 ·rename_i h1;split at h0
  ·cases h0
  ·rename_i h2;obtain⟨hp,he⟩:=cd h1;rw[if_pos h1,if_neg h2,jG hp];exact sm _ hp _ h (by rw[he];exact hm)
 ·cases h0
theorem Ht {s:Dsk × Int} {n x m t:Txt} (hm:m≠n) (ht:t≠n) (h:hasD s.1.files n x):hasD (vH m t s).1.files n x:=by
 refine lx h (la h fun h0=>?_)
 unfold ii at h0 ⊢;split at h0
 ·rename_i h1;split at h0
  ·rename_i h2;obtain⟨hp,he⟩:=cd h1;rw[if_pos h1,if_pos h2];have h3:=xU _ hp h (by rw[he];exact hm)
   unfold iT;split
   ·rename_i h4;obtain⟨hp4,he4⟩:=cd h4;exact sm _ hp4 _ h3 (by rw[he4,xY];exact ht)
   ·exact xh _ _ h3
  ·cases h0
 ·cases h0
theorem yG {s:Dsk × Int} {n x m:Txt} (hm:m≠n) (h:hasD s.1.files n x):hasD (cN m s).1.files n x:=by
 unfold cN;split
 ·exact h
 ·split
  ·exact sE (s:=(s.1,0)) hm h
  ·exact sE (s:=(s.1,0)) hm h
theorem pu {k u:Nat} {s:Dsk × Int} (hd:okN k u s.1) {n x:Txt} (m:Man) (h1:[110]≠n) (h2:[109]≠n) (h:hasD s.1.files n x):hasD (bR m s).1.files n x:=by
 unfold bR;have h3:hasD (if s.2=0 then(s.1,(bC m).2) else s).1.files n x:=by split <;> exact h
 have k1:okN k u (if s.2=0 then(s.1,(bC m).2) else s).1:=by split <;> exact hd
 generalize (if s.2=0 then(s.1,(bC m).2) else s)=s1 at *
 have h4:hasD (if(bZ s1.1.files [110]).2=0 then dw [110] s1 else s1).1.files n x:=by
  split
  ·exact sE h1 h3
  ·exact h3
 have k2:okN k u (if(bZ s1.1.files [110]).2=0 then dw [110] s1 else s1).1:=by
  split
  ·exact dL k1 _
  ·exact k1
 simp only[];generalize (if(bZ s1.1.files [110]).2=0 then dw [110] s1 else s1)=s2 at *
 have h5:=xq [110] h4;have k3:=dY k2 [110];split
 ·exact h5
 ·exact Ht h1 h2 (xw (kP (iZ k3 [110] (bC m).1) [110]).srt _ (yG h1 (xH h1 _ h5)))
theorem I8 {d:Dsk} {n x t:Txt} (hs:srt d.files) (h:hasD d.files n x) (h0:(am d (bH d.files d.cap n t)).2=0):hasD (am d (bH d.files d.cap n t)).1.files n (x++t):=by
 obtain⟨h1,h2⟩:=Bz h0;rw[h2];unfold bH at h1 ⊢;split at h1
 ·rename_i h3;split at h1
  ·cases h1
  ·rename_i h4;obtain⟨hp,he⟩:=cd h3;have hr:=oY hs h;unfold bZ at hr;rw[zE hp] at hr;simp only[he,if_true,Prod.mk.injEq,and_true] at hr;rw[if_pos h3,if_neg h4,jG hp];refine(?_:∀ G:Fil,G.name=n->G.data=x++t->hasD (d.files.set (ax d.files n) G) n (x++t)) _ he (by simp[hr])
   rintro G rfl hG;rw[<- hG];exact B5 _ hp G
 ·cases h1
theorem BA {d:Dsk} {n:Txt} (h0:(bL n (d,0)).2=0):hasD (bL n (d,0)).1.files n []:=by
 unfold bL uL at h0 ⊢;rw[if_pos rfl] at h0 ⊢;obtain⟨h1,h2⟩:=Bz h0;rw[h2];unfold bh at h1 ⊢;split at h1
 ·rename_i h3;split at h1
  ·cases h1
  ·rename_i h4;rw[if_pos h3,if_neg h4];exact J2 _ _ ⟨n,[],0⟩
 ·cases h1
theorem Bw (n j:Nat):iN n j<58:=by unfold iN;omega
theorem DZ {a b:Nat} (h:fc 115 a=fc 115 b) (j:Nat) (hj:j<13):a / 10 ^ (12-j) % 10=b / 10 ^ (12-j) % 10:=by
 unfold fc at h;simp only[List.cons.injEq,true_and] at h;have h1:=List.map_inj_left.1 h j (by simpa using hj)
 have h2:=congrArg UInt8.toNat h1;have ha:=Bw a (j+1);have hb:=Bw b (j+1);rw[UInt8.toNat_ofNat_of_lt' (by show _<256;omega),UInt8.toNat_ofNat_of_lt' (by show _<256;omega)] at h2
 unfold iN at h2;have e:13-(j+1)=12-j:=by omega
 rw[e] at h2;omega
theorem Ds {a b:Nat} (ha:a<10 ^ 13) (hb:b<10 ^ 13) (h:fc 115 a=fc 115 b):a=b:=by
 have key:∀ k,k<=13->a / 10 ^ (13-k)=b / 10 ^ (13-k):=by
  intro k;induction k with
  | zero=>intro _;rw[Nat.div_eq_of_lt ha,Nat.div_eq_of_lt hb]
  | succ k ih =>
   intro hk;have h1:=ih (by omega)
   have h2:=DZ h k (by omega)
   have e:13-k=(12-k)+1:=by omega
   have e2:13-(k+1)=12-k:=by omega
   rw[e,Nat.pow_succ,<- Nat.div_div_eq_div_mul,<- Nat.div_div_eq_div_mul] at h1;rw[e2];omega
 have:=key 13 (by omega)
 simpa using this
theorem dF {a b:Int} (ha:0<=a∧a<=1099511627776) (hb:0<=b∧b<=1099511627776) (h:fileN a=fileN b):a=b:=by
 have:=Ds (a:=a.toNat) (b:=b.toNat) (by omega) (by omega) h
 omega
theorem mF (a:Int) (c:UInt8):[c]≠fileN a:=fun h=>by
 have:=congrArg List.length h;simp[fileN,fc] at this
abbrev SR:=Seg × List Rec
def chainM:Int->List SR->Int->Prop
 | b,[],e=>b=e
 | b,p::M,e=>p.1.base=b∧1<=p.2.length∧chainM (b+p.2.length) M e
theorem rP:∀ (M:List SR) (b:Int) (p:SR) (e:Int),chainM b (M++[p]) e↔(chainM b M p.1.base∧1<=p.2.length∧p.1.base+p.2.length=e)
 | [],b,p,e=>by
  simp only[List.nil_append,chainM];constructor
  ·rintro⟨rfl,h2,h3⟩;exact⟨rfl,h2,h3⟩
  ·rintro⟨rfl,h2,h3⟩;exact⟨rfl,h2,h3⟩
 | q::M,b,p,e=>by
  simp only[List.cons_append,chainM,rP M];constructor
  ·rintro⟨h1,h2,h3,h4,h5⟩;exact⟨⟨h1,h2,h3⟩,h4,h5⟩
  ·rintro⟨⟨h1,h2,h3⟩,h4,h5⟩;exact⟨h1,h2,h3,h4,h5⟩
theorem dy:∀ (M:List SR) (b e:Int),chainM b M e->b<=e∧∀ p∈M,b<=p.1.base∧p.1.base+p.2.length<=e∧1<=p.2.length
 | [],b,e,h=>⟨by simp only[chainM] at h;omega,fun _ h=>by cases h⟩
 | q::M,b,e,h=>by
  obtain⟨h1,h2,h3⟩:=h;obtain⟨h4,h5⟩:=dy M _ _ h3;refine⟨by omega,fun p hp=>?_⟩
  rcases List.mem_cons.1 hp with rfl|hp
  ·exact⟨by omega,by omega,h2⟩
  ·have:=h5 p hp;exact⟨by omega,this.2.1,this.2.2⟩
def aX (M:List SR):List Rec:=M.flatMap (·.2)
theorem cJ (M N:List SR):aX (M++N)=aX M++aX N:=List.flatMap_append
theorem eJ (p:SR):aX [p]=p.2:=by simp[aX]
theorem iw:∀ (M:List SR) (b e:Int),chainM b M e->b+(aX M).length=e
 | [],b,e,h=>by simpa[aX,chainM] using h
 | q::M,b,e,h=>by
  obtain⟨h1,h2,h3⟩:=h;have:=iw M _ _ h3;have e1:aX (q::M)=q.2++aX M:=rfl;rw[e1,zA];omega
structure fileOk (fs:List Fil) (p:SR):Prop where
 has:hasD fs (fileN p.1.base) (rowS p.2)
 why:∀ r∈p.2,whyF r=0
 num:numB p.1.base p.2
 n:p.1.n=p.2.length
 size:p.1.size=(rowS p.2).length
structure Inv (f:Int) (s:Sto) (M:List SR) (g:Seg) (l:List Rec):Prop where
 segs:s.segs=M.map (·.1)++[g]
 file:∀ p∈M++[(g,l)],fileOk s.disk.files p
 chain:chainM f M g.base
 next:s.next=g.base+l.length
 sure:0<=s.sure∧s.sure<=s.next
theorem GP {b:Int} {l:List Rec} (h:numB b l) (k:Nat) (hk:k<l.length):l.find? (fun r=>decide (r.at_=b+k))=some l[k]:=by
 rw[List.find?_eq_some_iff_getElem];refine⟨by simpa using h k hk,k,hk,rfl,fun j hj=>?_⟩
 have:=h j (by omega)
 simp only[Bool.not_eq_true',decide_eq_false_iff_not];omega
theorem Gl {d:Dsk} {r:List Fil × Int} (h:(am d r).2≠0):(am d r).1.files=d.files:=by
 unfold am at h ⊢;split
 ·rfl
 ·rename_i h1;rw[if_neg h1] at h;split
  ·rfl
  ·rename_i h2;rw[if_neg h2] at h;split
   ·rename_i h3;rw[if_pos h3] at h;split
    ·rfl
    ·rename_i h4;rw[if_neg h4] at h;exact absurd rfl h
   ·rename_i h3;rw[if_neg h3] at h;exact absurd rfl h
theorem fileOk.keep {fs fs':List Fil} {p:SR} (h:fileOk fs p) (hk:hasD fs (fileN p.1.base) (rowS p.2)->hasD fs' (fileN p.1.base) (rowS p.2)):fileOk fs' p:=⟨hk h.has,h.why,h.num,h.n,h.size⟩
theorem Inv.last {f:Int} {s:Sto} {M:List SR} {g:Seg} {l:List Rec} (h:Inv f s M g l):s.last=g:=by
 unfold Sto.last;rw[h.segs];simp
theorem Inv.disk {f:Int} {s:Sto} {M:List SR} {g:Seg} {l:List Rec} (h:Inv f s M g l) (d:Dsk) (hk:∀ p∈M++[(g,l)],hasD s.disk.files (fileN p.1.base) (rowS p.2)->hasD d.files (fileN p.1.base) (rowS p.2)):Inv f { s with disk:=d } M g l :=
 ⟨h.segs,fun p hp=>(h.file p hp).keep (hk p hp),h.chain,h.next,h.sure⟩
theorem xR {k u:Nat} {f:Int} {s:Sto} {M:List SR} {g:Seg} {l:List Rec} (ho:okS k u s) (h:Inv f s M g l) (hn:0<=s.next):Inv f (aT s).1 M g l:=by
 have h1:Inv f { s with disk:=(am s.disk (cq s.disk.files (fileN s.last.base))).1 } M g l:=h.disk _ fun p _ hd=>xw (s:=(s.disk,0)) ho.dsk.srt _ hd
 refine⟨h1.segs,h1.file,h1.chain,h1.next,?_⟩;unfold aT;simp only[];have:=h.sure;split <;> omega
theorem D7 {k u:Nat} {s:Sto} (ho:okS k u s) (h:s.sure<=s.next):s.sure<=(aT s).1.sure:=by
 unfold aT;simp only[];split <;> omega
theorem zg {k u:Nat} {s:Sto} (ho:okS k u s) {n x:Txt} (h1:[110]≠n) (h2:[109]≠n) (h3:fileN s.next≠n) (h:hasD s.disk.files n x):hasD (dW s).1.files n x:=by
 unfold dW;simp only[];have k1:=dY (s:=(s.disk,0)) ho.dsk (fileN s.next);have h4:=xq (s:=(s.disk,0)) (fileN s.next) h;split
 ·exact yG h3 (pu k1 _ h1 h2 h4)
 ·exact h4
theorem Cm {k u:Nat} {s:Sto} (ho:okS k u s) (h:(dW s).2=0):hasD (dW s).1.files (fileN s.next) []:=by
 unfold dW at h ⊢;simp only[] at h ⊢;have k1:=dY (s:=(s.disk,0)) ho.dsk (fileN s.next);by_cases c:(bL (fileN s.next) (s.disk,0)).2=0
 ·rw[if_pos c] at h ⊢;have h4:=pu k1 (jB s).man (mF _ _) (mF _ _) (BA c);unfold cN at h ⊢;split at h
  ·rename_i h5;rw[if_pos h5];exact h4
  ·split at h
   ·cases h
   ·rename_i h6;exact absurd h h6
 ·rw[if_neg c] at h;exact absurd h c
theorem HF {k u:Nat} {f:Int} {s:Sto} {M:List SR} {g:Seg} {l:List Rec} (ho:okS k u s) (h:Inv f s M g l) (hl:l≠[]):∀ p∈M++[(g,l)],fileN s.next≠fileN p.1.base:=by
 intro p hp he;have hpm:p.1∈s.segs:=by
  rw[h.segs];rcases zX.1 hp with hp|hp
  ·exact List.mem_append_left _ (List.mem_map_of_mem hp)
  ·rw[zV.1 hp];simp
 have:=dF ho.next (ho.seg _ hpm).1 he;have hll:0<l.length:=List.length_pos_iff.2 hl;have hnx:=h.next;rcases zX.1 hp with hp|hp
 ·have:=(dy _ _ _ h.chain).2 p hp;omega
 ·rw[zV.1 hp] at this;simp only[] at this;omega
theorem Fk {k u:Nat} {f:Int} {s:Sto} {M:List SR} {g:Seg} {l:List Rec} (ho:okS k u s) (h:Inv f s M g l) (hl:l≠[]) :
  ((co s).2≠0∧Inv f (co s).1 M g l)∨((co s).2=0∧Inv f (co s).1 (M++[(g,l)]) ⟨s.next,0,0⟩ []):=by
 have h1:=xR ho h ho.next.1;have o1:=j5 ho;have hn:(aT s).1.next=s.next:=rfl;unfold co;by_cases c1:64<=s.segs.length
 ·rw[if_pos c1];exact .inl ⟨by simp,h⟩
 ·rw[if_neg c1];by_cases c2:(aT s).2=0
  ·rw[if_neg (by simp[c2])]
   generalize (aT s).1=t at *;have hk:∀ p∈M++[(g,l)],hasD t.disk.files (fileN p.1.base) (rowS p.2)->hasD (dW t).1.files (fileN p.1.base) (rowS p.2):=fun p hp hd =>
    zg o1 (mF _ _) (mF _ _) (HF o1 h1 hl p hp) hd
   by_cases c3:(dW t).2=0
   ·rw[if_pos c3];refine .inr ⟨rfl,?_,?_,?_,?_,?_⟩
    ·show t.segs++[_]=_;rw[h1.segs,hn];simp
    ·intro p hp;rcases zX.1 hp with hp|hp
     ·exact(h1.file p hp).keep (hk p hp)
     ·rw[zV.1 hp];have:=Cm o1 c3;rw[hn] at this;exact⟨this,fun r hr=>(by cases hr),fun k hk=>(by simp at hk),rfl,rfl⟩
    ·rw[rP];refine⟨h1.chain,List.length_pos_iff.2 hl,?_⟩;have:=h1.next;rw[hn] at this;simp only[];omega
    ·show t.next=s.next+_;rw[hn];simp
    ·exact h1.sure
   ·rw[if_neg c3];exact .inl ⟨c3,h1.disk _ hk⟩
  ·rw[if_pos c2];exact .inl ⟨c2,h1⟩
theorem mB (l:List Rec) (r:Rec):rowS (l++[r])=rowS l++aY (bE r):=by
 unfold rowS;rw[List.flatMap_append];simp[wB]
theorem HN {k u:Nat} {f:Int} {s:Sto} {M:List SR} {g:Seg} {l:List Rec} (ho:okS k u s) (h:Inv f s M g l) (r:Rec) (hr:whyF r=0) (ha:r.at_=s.next) :
  ((fN s (dS r).1).2≠0∧Inv f (fN s (dS r).1).1 M g l)∨((fN s (dS r).1).2=0∧Inv f (fN s (dS r).1).1 M ⟨g.base,g.n+1,g.size+(aY (bE r)).length⟩ (l++[r])):=by
 have hl:=h.last;have e1:(dS r).1=aY (bE r):=by unfold dS;rw[if_pos hr]
 have hgm:g∈s.segs:=by rw[h.segs];simp
 have hk:∀ p∈M,hasD s.disk.files (fileN p.1.base) (rowS p.2)->hasD (am s.disk (bH s.disk.files s.disk.cap (fileN g.base) (aY (bE r)))).1.files (fileN p.1.base) (rowS p.2):=by
  intro p hp hd;refine xH (s:=(s.disk,0)) (fun he=>?_) _ hd
  have hpm:p.1∈s.segs:=by rw[h.segs];exact List.mem_append_left _ (List.mem_map_of_mem hp)
  have:=dF (ho.seg _ hgm).1 (ho.seg _ hpm).1 he;have:=(dy _ _ _ h.chain).2 p hp;omega
 have hg:=h.file (g,l) (by simp)
 have hnx:=h.next;unfold fN;simp only[hl,e1];by_cases c:(am s.disk (bH s.disk.files s.disk.cap (fileN g.base) (aY (bE r)))).2=0
 ·rw[if_neg (by simp[c])]
  refine .inr ⟨rfl,?_,?_,h.chain,?_,?_⟩
  ·show s.segs.dropLast++[_]=_;rw[hl,h.segs];simp
  ·intro p hp;rcases zX.1 hp with hp|hp
   ·exact(h.file p (List.mem_append_left _ hp)).keep (hk p hp)
   ·rw[zV.1 hp];refine⟨?_,?_,?_,?_,?_⟩
    ·rw[mB];exact I8 ho.dsk.srt hg.has c
    ·intro x hx;rcases zX.1 hx with hx|hx
     ·exact hg.why x hx
     ·rw[zV.1 hx];exact hr
    ·intro j hj;rw[zA,List.length_singleton] at hj;rcases Nat.lt_or_ge j l.length with h3|h3
     ·rw[List.getElem_append_left h3];exact hg.num j h3
     ·have:j=l.length:=by omega
      subst this;simp only[List.getElem_concat_length];omega
    ·have:=hg.n;simp only[zA,List.length_singleton] at this ⊢;omega
    ·have:=hg.size;rw[mB];simp only[zA] at this ⊢;omega
  ·show s.next+1=g.base+_;rw[zA,List.length_singleton];omega
  ·have:=h.sure;show 0<=s.sure∧s.sure<=s.next+1;omega
 ·rw[if_pos c];refine .inl ⟨c,h.disk _ fun p hp hd=>?_⟩
  rw[Gl c];exact hd
structure Pr where
 key:Int
 val:List UInt8
 deriving DecidableEq
def Pr.enc (e:Pr):List D:=[.i .u8 e.key,.s e.val]
theorem Pr.len (e:Pr):e.enc.length=2:=Eq.trans rfl rfl
theorem Pr.tk (e:Pr):e.enc.take 2=e.enc:=Eq.trans rfl rfl
theorem Pr.tkL (e:Pr):(e.enc.map L.d).take 2=e.enc.map L.d:=Eq.trans rfl rfl
theorem Pr.at0 (e:Pr):e.enc[0]?=some (.i .u8 e.key):=Eq.trans rfl rfl
theorem Pr.at1 (e:Pr):(e.enc.drop 1)[0]?=some (.s e.val):=Eq.trans rfl rfl
def Pr.ok (e:Pr):Prop:=(0<=e.key∧e.key<256)∧e.val.length<=9223372036854775807
def Pr.ty:List Ty:=[.i .u8,.s]
def vf (p:Pr):Bool:=decide (1<=p.val.length) && decide (p.val.length<=63)
def jD (l:List Pr) (i:Nat):Int:=match l[i]? with|some p=>p.key|none=>0
def qF (l:List Pr) (i:Nat):Bool:=match l[i]? with
 | some p=>vf p && (decide (i=0) || decide (jD l (i-1)<p.key))
 | none=>true
def fu (l:List Pr):Bool:=(List.range l.length).all (qF l)
theorem yQ (l:List Pr) (i:Nat) (h:i<l.length):((List.range l.length).drop i).all (qF l)=(qF l i && ((List.range l.length).drop (i+1)).all (qF l)):=by
 rw[zD (by simpa using h),List.all_cons,List.getElem_range]
theorem CB (l:List Pr) (i:Nat) (h:l.length<=i):((List.range l.length).drop i).all (qF l)=true:=by
 rw[zC (by simpa using h)];rfl
theorem yZ (l:List Pr) (hl:l.length<=1000000):call 156 [vl (l.map Pr.enc)] []=some (vb (fu l),[]):=by
 apply ah QT rfl;(simp(disch:=first|decide|omega|(intros;exact aj rfl rfl)|simp only[aa]) only[MF,go_sem,seval,ak])
 refine aB (m:=0) (σ:=Nat) (fun i=>l.length-i) (fun i=>i<=l.length∧fu l=((List.range l.length).drop i).all (qF l)) (fun i=>[vl (l.map Pr.enc),vl (l.map Pr.enc),vi l.length,vi i]) (fun _=>[])
  (fun _=>(vb (fu l),[])) ?_ 0 ⟨zP _,rfl⟩ _ _ cm
 intro i ⟨h1,h2⟩ R hR;by_cases hi:i<l.length
 ·rw[yQ l i hi] at h2;have g1:(l.map Pr.enc)[i]?=some l[i].enc:=by simp[hi]
  have ha:qF l i=(vf l[i] && (decide (i=0) || decide (jD l (i-1)<l[i].key))):=by simp[qF,hi]
  rw[ha] at h2;obtain⟨p,hp⟩:∃ p,p=l[i]:=⟨_,rfl⟩;rw[<- hp] at g1 h2;by_cases c1:p.val=[]
  ·have e:fu l=false:=by rw[h2];simp[vf,c1]
   have hv:(p.val == [])=true:=by rw[c1];rfl
   rw[e];(simp(disch:=first|decide|omega|(intros;exact aj rfl rfl)|simp only[aa]) only[nh,g1,Pr.len,Pr.tkL,Pr.tk,Pr.at0,Pr.at1,Pr.enc,hv,go_sem,seval,ak])
   try simp[trim]
  ·have hv:(p.val == [])=false:=by simpa using c1
   have hv1:1<=p.val.length:=List.length_pos_iff.2 c1;by_cases c2:(p.val.length:Int)≥64
   ·have e:fu l=false:=by rw[h2];simp[vf];omega
    rw[e];(simp(disch:=first|decide|omega|(intros;exact aj rfl rfl)|simp only[aa]) only[nh,g1,Pr.enc,hv,zT c2,go_sem,seval,ak])
    try simp[trim]
   ·have hk:vf p=true:=by simp[vf];omega
    rw[hk,Bool.true_and] at h2;by_cases c3:i=0
    ·have hi0:¬ (0:Int)<(i:Int):=by omega
     rw[zT c3,Bool.true_or,Bool.true_and] at h2;(simp(disch:=first|decide|omega|(intros;exact aj rfl rfl)|simp only[aa]) only[nh,g1,Pr.enc,hv,zF c2,zF hi0,go_sem,seval,ak])
     exact hR (i+1) (by omega) ⟨by omega,h2⟩ _ _ cm
    ·have hi0:(0:Int)<(i:Int):=by omega
     have hm:((i:Int)-1).toNat=i-1:=by omega
     have hm0:(0:Int)<=(i:Int)-1:=by omega
     have g2:(l.map Pr.enc)[i-1]?=some l[i-1].enc:=by rw[zG,zE (by omega)];rfl
     have hq:jD l (i-1)=l[i-1].key:=by
      have:l[i-1]?=some l[i-1]:=zE (by omega)
      simp[jD,this]
     rw[hq,zF c3,Bool.false_or] at h2;obtain⟨q,hqe⟩:∃ q,q=l[i-1]:=⟨_,rfl⟩;rw[<- hqe] at g2 h2;by_cases c4:p.key<=q.key
     ·have e:fu l=false:=by rw[h2,zF (by omega)];rfl
      rw[e];(simp(disch:=first|decide|omega|(intros;exact aj rfl rfl)|simp only[aa]) only[nh,g1,g2,hm,hm0,Pr.enc,hv,zF c2,zT hi0,zT c4,go_sem,seval,ak])
      try simp[trim]
     ·rw[zT (p:=q.key<p.key) (by omega),Bool.true_and] at h2
      (simp(disch:=first|decide|omega|(intros;exact aj rfl rfl)|simp only[aa]) only[nh,g1,g2,hm,hm0,Pr.enc,hv,zF c2,zT hi0,zF c4,go_sem,seval,ak])
      exact hR (i+1) (by omega) ⟨by omega,h2⟩ _ _ cm
 ·have e:fu l=true:=by rw[h2,CB l i (by omega)]
  rw[e];(simp(disch:=first|decide|omega|(intros;exact aj rfl rfl)|simp only[aa]) only[nh,MF,go_sem,seval,ak])
  try simp[trim]
def qw (s:List UInt8) (a:Nat):Option (Pr × Nat):=match ny (s.drop (a+1)) 0 0 with
 | some (n,k)=>if s.length<a+1+k+n then none else some (⟨((s[a]?.getD 0).toNat:Int),(s.take (a+1+k+n)).drop (a+1+k)⟩,a+1+k+n)
 | none=>none
def hI (s:List UInt8):Nat->Nat->List Pr->Option (List Pr × Nat)
 | 0,a,out=>some (out,a)
 | n+1,a,out=>match qw s a with
  | some (p,b)=>hI s n b (out++[p])
  | none=>none
def nG (s:List UInt8):Option (List Pr × Nat)->Option (List Pr)
 | some (out,a)=>if a=s.length∧fu out=true then some out else none
 | none=>none
def bA (s:List UInt8):Option (List Pr):=match ny s 0 0 with
 | some (n,k)=>if 256<n then none else nG s (hI s n k [])
 | none=>none
def gp:Option (List Pr)->V
 | some l=>.tup [(false,[.d (.l (l.map Pr.enc))]),(false,[.d (.b true)])]
 | none=>.tup [(false,[.d (.l [])]),(false,[.d (.b false)])]
theorem se (s:List UInt8) (hs:s.length<=1000000000):call 121 [vs s] []=some (gp (bA s),[]):=by
 apply ah QV rfl;have h0:=me s 0 (by decide) (by omega)
 rw[List.drop_zero] at h0;have z0:((0:Nat):Int)=0:=rfl;rw[z0] at h0;cases hn:ny s 0 0 with
 | none =>
  have e:bA s=none:=by simp only[bA,hn]
  rw[hn] at h0;rw[e];(simp(disch:=first|decide|omega|(intros;exact aj rfl rfl)|simp only[aa]) only[yT,h0,sw,gp,go_sem,seval,ak])
  try simp[trim]
 | some q =>
  obtain⟨n,k⟩:=q;have hk:=(jY hn).2.1;rw[hn] at h0;by_cases c1:(256:Int)<(n:Int)
  ·have e:bA s=none:=by simp only[bA,hn];rw[if_pos (by omega)]
   rw[e];(simp(disch:=first|decide|omega|(intros;exact aj rfl rfl)|simp only[aa]) only[yT,h0,sw,gp,zT c1,go_sem,seval,ak])
   try simp[trim]
  ·have e:bA s=nG s (hI s n k []):=by simp only[bA,hn];rw[if_neg (by omega)]
   rw[e];have ek:(((0+k:Nat)):Int)=(k:Int):=by rw[Nat.zero_add]
   (simp(disch:=first|decide|omega|(intros;exact aj rfl rfl)|simp only[aa]) only[yT,h0,sw,zF c1,ek,go_sem,seval,ak])
   refine aB (m:=0) (σ:=Nat × Nat × List Pr) (fun t=>n-t.1) (fun t=>t.1<=n∧t.2.1<=s.length∧t.2.2.length=t.1∧hI s n k []=hI s (n-t.1) t.2.1 t.2.2) (fun t=>[vs s,vi t.2.1,V.one (.sl 0 2 0 t.2.2.length),vi n,vi t.1]) (fun t=>[.arr 2 (t.2.2.map Pr.enc) 0])
    (fun _=>(gp (nG s (hI s n k [])),[])) ?_ (0,k,[]) ⟨zP _,hk,rfl,rfl⟩ _ _ cm
   rintro⟨i,a,out⟩ ⟨h1,h2,h3,h4⟩ R hR;simp only at h1 h2 h3 h4;by_cases hi:i<n
   ·obtain⟨m,hm⟩:∃ m,n-i=m+1:=⟨n-i-1,by omega⟩
    rw[hm,hI] at h4;have hr:=me s (a+1) (by omega) (by omega)
    rw[Int.natCast_add,Int.natCast_one] at hr;cases hp:ny (s.drop (a+1)) 0 0 with
    | none =>
     have e1:hI s n k []=none:=by rw[h4];simp only[qw,hp]
     rw[hp] at hr;rw[e1];(simp(disch:=first|decide|omega|(intros;exact aj rfl rfl)|simp only[aa]) only[nv,hr,sw,gp,nG,go_sem,seval,ak])
     try simp[trim]
    | some q =>
     obtain⟨w,j⟩:=q;have hj:=jY hp;have hjl:a+1+j<=s.length:=by have:=hj.2.1;rw[zH] at this;omega
     rw[hp] at hr;by_cases c2:(s.length:Int)-((a+1+j:Nat):Int)<(w:Int)
     ·have e1:hI s n k []=none:=by rw[h4];simp only[qw,hp];rw[if_pos (by omega)]
      rw[e1];(simp(disch:=first|decide|omega|(intros;exact aj rfl rfl)|simp only[aa]) only[nv,hr,sw,gp,nG,zT c2,go_sem,seval,ak])
      try simp[trim]
     ·have ha:a<s.length:=by omega
      have hc:s[a]?=some s[a]:=zE ha;have e1:qw s a=some (⟨(s[a].toNat:Int),(s.take (a+1+j+w)).drop (a+1+j)⟩,a+1+j+w):=by
       simp only[qw,hp];rw[if_neg (by omega),hc];rfl
      rw[e1] at h4;simp only at h4;have ew:(((a+1+j:Nat)):Int)+(w:Int)=((a+1+j+w:Nat):Int):=by omega
      have hw:(((a+1+j+w:Nat)):Int).toNat=a+1+j+w:=by omega
      (simp(disch:=first|decide|omega|(intros;exact aj rfl rfl)|simp only[aa]) only[nv,hr,sw,zF c2,hc,ew,go_sem,seval,ak])
      have hR':=hR ((i+1,a+1+j+w,out++[⟨(s[a].toNat:Int),(s.take (a+1+j+w)).drop (a+1+j)⟩])) (by first|omega|(simp only[];omega)) ⟨by omega,by simp only[];omega,by simp[h3],by rw[h4];congr 1;omega⟩;simp only[Pr.enc,zA,List.length_cons,List.length_nil,Nat.zero_add,List.map_append,List.map_cons,List.map_nil] at hR';exact hR' _ _ cm
   ·have hin:i=n:=by omega
    subst hin;rw[Nat.sub_self,hI] at h4;rw[h4];have hr:=yZ out (by omega)
    have ht:List.take out.length (out.map Pr.enc)=out.map Pr.enc:=zL (by simp)
    by_cases c3:(a:Int)<(s.length:Int)
    ·have e1:nG s (some (out,a))=none:=by simp only[nG];rw[if_neg (by omega)]
     rw[e1];(simp(disch:=first|decide|omega|(intros;exact aj rfl rfl)|simp only[aa]) only[nv,yT,zT c3,gp,go_sem,seval,ak])
     try simp[trim]
    ·cases hq:fu out with
     | false =>
      have e1:nG s (some (out,a))=none:=by simp only[nG,hq];rw[if_neg (by simp)]
      rw[e1];rw[hq] at hr;(simp(disch:=first|decide|omega|(intros;exact aj rfl rfl)|simp only[aa]) only[nv,yT,zF c3,hr,ht,gp,go_sem,seval,ak])
      try simp[trim]
     | true =>
      have e1:nG s (some (out,a))=some out:=by simp only[nG,hq];rw[if_pos ⟨by omega,trivial⟩]
      rw[e1];rw[hq] at hr;(simp(disch:=first|decide|omega|(intros;exact aj rfl rfl)|simp only[aa]) only[nv,yT,zF c3,hr,ht,gp,go_sem,seval,ak])
      try simp[trim]
def cH (l:List Pr):List UInt8->List Pr
 | []=>l
 | c::r=>l.takeWhile (fun p=>decide (p.key<(c.toNat:Int)))++(if r=[] then[] else[⟨(c.toNat:Int),r⟩])++l.filter (fun p=>decide ((c.toNat:Int)<p.key))
theorem Kk (P:Pr->Bool) (l:List Pr) (i:Nat) (h:i<l.length):(l.drop i).takeWhile P=if P l[i]=true then l[i]::(l.drop (i+1)).takeWhile P else[]:=by
 rw[zD h,List.takeWhile_cons]
theorem GU (l:List Pr) (i:Nat) (h:i<l.length):(l.take i).map Pr.enc++[l[i].enc]=(l.take (i+1)).map Pr.enc:=by
 rw[zO h,List.map_append];rfl
theorem oj (Q:Pr->Bool) (l:List Pr) (i:Nat) (h:i<l.length):(l.take (i+1)).filter Q=(l.take i).filter Q++(if Q l[i]=true then[l[i]] else[]):=by
 rw[zO h,List.filter_append];congr 1
 by_cases hq:Q l[i]=true <;> simp[hq]
theorem n9 (Q:Pr->Bool) (l:List Pr) (i:Nat):((l.take i).filter Q).length<=l.length :=
 Nat.le_trans (List.length_filter_le _ _) (by simp;omega)
theorem step_ref (l:List Pr) (hl:l.length<=1000000) (d:List UInt8) (hd:d.length<=1000000):call 44 [vl (l.map Pr.enc),vs d] []=some (vl ((cH l d).map Pr.enc),[]):=by
 apply ah R8 rfl;have hok:aR 2 (l.map Pr.enc)=true:=aV Pr.len _;cases d with
 | nil =>
  have e0:(([]:List UInt8) == [])=true:=rfl;have ht:List.take l.length (l.map Pr.enc)=l.map Pr.enc:=zL (by simp)
  (simp(disch:=first|decide|omega|(intros;exact aj rfl rfl)|simp only[aa]) only[Fl,e0,hok,ht,go_sem,seval,ak])
  try simp[trim,cH]
 | cons c r =>
  have e0:((c::r) == ([]:List UInt8))=false:=rfl;obtain⟨Z,hZ⟩:∃ Z:V × Hp,Z=(vl ((cH l (c::r)).map Pr.enc),[]):=⟨_,rfl⟩;rw[<- hZ];have hc0:(c::r)[0]?=some c:=rfl;have hlr:(c::r).length<=1000000:=hd;obtain⟨dt,hD⟩:∃ dt,dt=c::r:=⟨_,rfl⟩;rw[<- hD] at hc0 e0 hlr hZ ⊢;(simp(disch:=first|decide|omega|(intros;exact aj rfl rfl)|simp only[aa]) only[Fl,e0,go_sem,seval,ak])
  refine aB (m:=0) (σ:=Nat) (fun i=>l.length-i) (fun i=>i<=l.length∧l.takeWhile (fun p=>decide (p.key<(c.toNat:Int)))=l.take i++(l.drop i).takeWhile (fun p=>decide (p.key<(c.toNat:Int)))) (fun i=>[vl (l.map Pr.enc),vs dt,V.one (.sl 0 2 0 (l.take i).length),vi i]) (fun i=>[.arr 2 ((l.take i).map Pr.enc) 0])
   (fun _=>Z) ?_ 0 ⟨zP _,by simp⟩ _ _ cm
  intro i ⟨h1,h2⟩ R hR;have key:l.takeWhile (fun p=>decide (p.key<(c.toNat:Int)))=l.take i->Z=(vl ((l.take i++(if r=[] then[] else[(⟨(c.toNat:Int),r⟩:Pr)])++l.filter (fun(p:Pr)=>decide ((c.toNat:Int)<p.key))).map Pr.enc),[]):=by
   intro he;rw[hZ,hD,cH,he]
  have two:∀ (i:Nat) (h:i<l.length),(l.map Pr.enc)[i]?=some l[i].enc:=fun i h=>by rw[zG,zE h];rfl
  have hlen:(l.take i).length=i:=by simp;omega
  have go:(i<l.length->jD l i<(c.toNat:Int))∨(i<l.length->¬ jD l i<(c.toNat:Int)):=by
   by_cases h:jD l i<(c.toNat:Int)
   ·exact .inl fun _=>h
   ·exact .inr fun _=>h
  have kat:∀ (i:Nat) (h:i<l.length),jD l i=l[i].key:=fun i h=>by
   have:l[i]?=some l[i]:=zE h;simp[jD,this]
  by_cases hi:i<l.length∧jD l i<(c.toNat:Int)
  ·obtain⟨hi,c1⟩:=hi;have g1:=two i hi;rw[kat i hi] at c1;rw[Kk _ l i hi,if_pos (zT c1)] at h2;have ho:=GU l i hi;have hl1:(l.take i).length+1=(l.take (i+1)).length:=by simp;omega
   have h3:l.takeWhile (fun p=>decide (p.key<(c.toNat:Int)))=l.take (i+1)++(l.drop (i+1)).takeWhile (fun p=>decide (p.key<(c.toNat:Int))):=by rw[h2,zO hi,List.append_assoc];rfl
   obtain⟨p,hp⟩:∃ p,p=l[i]:=⟨_,rfl⟩;rw[<- hp] at g1 c1 ho;have hb:(l.take i).length<=1000000:=by omega
   obtain⟨B,hB⟩:∃ B,B=l.take i:=⟨_,rfl⟩;rw[<- hB] at ho hl1 hb ⊢;(simp(disch:=first|decide|omega|(intros;exact aj rfl rfl)|simp only[aa]) only[uA,g1,Pr.len,Pr.tk,Pr.tkL,Pr.at0,hc0,zT c1,ho,hl1,go_sem,seval,ak])
   exact hR (i+1) (by omega) ⟨by omega,h3⟩ _ _ cm
  ·have he:l.takeWhile (fun p=>decide (p.key<(c.toNat:Int)))=l.take i:=by
    rw[h2];by_cases hj:i<l.length
    ·rw[Kk _ l i hj,if_neg ?_,List.append_nil];intro hc;exact hi ⟨hj,by rw[kat i hj];simpa using hc⟩
    ·rw[zC (by omega)];simp
   have hz:=key he;have hb:(l.take i).length<=1000000:=by omega
   clear key he h2 hR hlen;obtain⟨B,hB⟩:∃ B,B=l.take i:=⟨_,rfl⟩;rw[<- hB] at hz hb ⊢;clear hB;obtain⟨B',hB',hm,hl2⟩:∃ B':List Pr,B'=B++[⟨(c.toNat:Int),r⟩]∧B.map Pr.enc++[[.i .u8 (c.toNat:Int),.s r]]=B'.map Pr.enc∧B.length+1=B'.length:=⟨_,rfl,by simp[Pr.enc],by simp⟩
   have hdr:List.drop 1 dt=r:=by rw[hD];rfl
   have hdt:List.take dt.length dt=dt:=List.take_length;by_cases hr:r=[]
   ·have hdl:¬ (1:Int)<(dt.length:Int):=by rw[hD,hr];simp
    rw[if_pos hr,List.append_nil] at hz;clear hm hl2 hB' B';by_cases hj:i<l.length
    ·have g1:=two i hj;have c1:¬ l[i].key<(c.toNat:Int):=fun h=>hi ⟨hj,by rw[kat i hj];exact h⟩
     obtain⟨p,hp⟩:∃ p,p=l[i]:=⟨_,rfl⟩;rw[<- hp] at g1 c1;(simp(disch:=first|decide|omega|(intros;exact aj rfl rfl)|simp only[aa]) only[uA,Fl,g1,Pr.len,Pr.tk,Pr.tkL,Pr.at0,hc0,zF c1,zF hdl,go_sem,seval,ak])
     refine aB (m:=0) (σ:=Nat) (fun j=>l.length-j) (fun j=>j<=l.length) (fun j=>[vl (l.map Pr.enc),vs dt,V.one (.sl 0 2 0 (B++(l.take j).filter (fun(p:Pr)=>decide ((c.toNat:Int)<p.key))).length),vi j]) (fun j=>[.arr 2 ((B++(l.take j).filter (fun(p:Pr)=>decide ((c.toNat:Int)<p.key))).map Pr.enc) 0])
      (fun _=>Z) ?_ 0 (zP _) _ _ (at_head2 (by decide) (by simp only[List.map_cons,List.map_nil,go_sem,seval];exact rfl) (by simp[aK,aH,aC,aQ,ay,V.ren,L.ren,Box.ren,V.refs,L.refs,Box.refs,List.append_nil]) (by simp[aK,aH,aC,aQ,ay,V.ren,L.ren,Box.ren,V.refs,L.refs,Box.refs,List.append_nil]))
     intro j h1 R hR;by_cases hi:j<l.length
     ·have g1:=two j hi;have hf:=oj (fun(p:Pr)=>decide ((c.toNat:Int)<p.key)) l j hi
      have hfl:=n9 (fun(p:Pr)=>decide ((c.toNat:Int)<p.key)) l j
      obtain⟨p,hp⟩:∃ p,p=l[j]:=⟨_,rfl⟩;rw[<- hp] at g1 hf;by_cases c2:(c.toNat:Int)<p.key
      ·rw[if_pos (zT c2)] at hf;have hR':=hR (j+1) (by omega) (by omega)
       rw[hf] at hR';obtain⟨C,hC⟩:∃ C,C=B++(l.take j).filter (fun(p:Pr)=>decide ((c.toNat:Int)<p.key)):=⟨_,rfl⟩
       have hcl:C.length<=2000001:=by rw[hC,zA];omega
       rw[<- List.append_assoc,<- hC] at hR';rw[<- hC];obtain⟨C',hC',hm1,hm2⟩:∃ C':List Pr,C++[p]=C'∧C.map Pr.enc++[p.enc]=C'.map Pr.enc∧C.length+1=C'.length:=⟨_,rfl,by simp,by simp⟩
       rw[hC'] at hR';(simp(disch:=first|decide|omega|(intros;exact aj rfl rfl)|simp only[aa]) only[jm,g1,Pr.len,Pr.tk,Pr.tkL,Pr.at0,hc0,zT c2,hm1,hm2,go_sem,seval,ak])
       exact hR' _ _ cm
      ·rw[if_neg (by simpa using c2),List.append_nil] at hf
       have hR':=hR (j+1) (by omega) (by omega)
       rw[hf] at hR';generalize B++(l.take j).filter (fun(p:Pr)=>decide ((c.toNat:Int)<p.key))=C at hR' ⊢
       (simp(disch:=first|decide|omega|(intros;exact aj rfl rfl)|simp only[aa]) only[jm,g1,Pr.len,Pr.tk,Pr.tkL,Pr.at0,hc0,zF c2,go_sem,seval,ak])
       exact hR' _ _ cm
     ·have hj2:l.take j=l:=zL (by omega)
      rw[hj2];obtain⟨C,hC⟩:∃ C,C=B++l.filter (fun(p:Pr)=>decide ((c.toNat:Int)<p.key)):=⟨_,rfl⟩
      rw[<- hC] at hz ⊢;rw[hz];have ht:List.take C.length (C.map Pr.enc)=C.map Pr.enc:=zL (by simp)
      (simp(disch:=first|decide|omega|(intros;exact aj rfl rfl)|simp only[aa]) only[jm,Fl,ht,go_sem,seval,ak])
      try simp[trim]
    ·(simp(disch:=first|decide|omega|(intros;exact aj rfl rfl)|simp only[aa]) only[uA,Fl,zF hdl,go_sem,seval,ak])
     refine aB (m:=0) (σ:=Nat) (fun j=>l.length-j) (fun j=>j<=l.length) (fun j=>[vl (l.map Pr.enc),vs dt,V.one (.sl 0 2 0 (B++(l.take j).filter (fun(p:Pr)=>decide ((c.toNat:Int)<p.key))).length),vi j]) (fun j=>[.arr 2 ((B++(l.take j).filter (fun(p:Pr)=>decide ((c.toNat:Int)<p.key))).map Pr.enc) 0])
      (fun _=>Z) ?_ 0 (zP _) _ _ (at_head2 (by decide) (by simp only[List.map_cons,List.map_nil,go_sem,seval];exact rfl) (by simp[aK,aH,aC,aQ,ay,V.ren,L.ren,Box.ren,V.refs,L.refs,Box.refs,List.append_nil]) (by simp[aK,aH,aC,aQ,ay,V.ren,L.ren,Box.ren,V.refs,L.refs,Box.refs,List.append_nil]))
     intro j h1 R hR;by_cases hi:j<l.length
     ·have g1:=two j hi;have hf:=oj (fun(p:Pr)=>decide ((c.toNat:Int)<p.key)) l j hi
      have hfl:=n9 (fun(p:Pr)=>decide ((c.toNat:Int)<p.key)) l j
      obtain⟨p,hp⟩:∃ p,p=l[j]:=⟨_,rfl⟩;rw[<- hp] at g1 hf;by_cases c2:(c.toNat:Int)<p.key
      ·rw[if_pos (zT c2)] at hf;have hR':=hR (j+1) (by omega) (by omega)
       rw[hf] at hR';obtain⟨C,hC⟩:∃ C,C=B++(l.take j).filter (fun(p:Pr)=>decide ((c.toNat:Int)<p.key)):=⟨_,rfl⟩
       have hcl:C.length<=2000001:=by rw[hC,zA];omega
       rw[<- List.append_assoc,<- hC] at hR';rw[<- hC];obtain⟨C',hC',hm1,hm2⟩:∃ C':List Pr,C++[p]=C'∧C.map Pr.enc++[p.enc]=C'.map Pr.enc∧C.length+1=C'.length:=⟨_,rfl,by simp,by simp⟩
       rw[hC'] at hR';(simp(disch:=first|decide|omega|(intros;exact aj rfl rfl)|simp only[aa]) only[jm,g1,Pr.len,Pr.tk,Pr.tkL,Pr.at0,hc0,zT c2,hm1,hm2,go_sem,seval,ak])
       exact hR' _ _ cm
      ·rw[if_neg (by simpa using c2),List.append_nil] at hf
       have hR':=hR (j+1) (by omega) (by omega)
       rw[hf] at hR';generalize B++(l.take j).filter (fun(p:Pr)=>decide ((c.toNat:Int)<p.key))=C at hR' ⊢
       (simp(disch:=first|decide|omega|(intros;exact aj rfl rfl)|simp only[aa]) only[jm,g1,Pr.len,Pr.tk,Pr.tkL,Pr.at0,hc0,zF c2,go_sem,seval,ak])
       exact hR' _ _ cm
     ·have hj2:l.take j=l:=zL (by omega)
      rw[hj2];obtain⟨C,hC⟩:∃ C,C=B++l.filter (fun(p:Pr)=>decide ((c.toNat:Int)<p.key)):=⟨_,rfl⟩
      rw[<- hC] at hz ⊢;rw[hz];have ht:List.take C.length (C.map Pr.enc)=C.map Pr.enc:=zL (by simp)
      (simp(disch:=first|decide|omega|(intros;exact aj rfl rfl)|simp only[aa]) only[jm,Fl,ht,go_sem,seval,ak])
      try simp[trim]
   ·have hdl:(1:Int)<(dt.length:Int):=by
     rw[hD];have:=List.length_pos_iff.2 hr;simp;omega
    rw[if_neg hr,<- hB'] at hz;have hb:B'.length<=1000001:=by omega
    by_cases hj:i<l.length
    ·have g1:=two i hj;have c1:¬ l[i].key<(c.toNat:Int):=fun h=>hi ⟨hj,by rw[kat i hj];exact h⟩
     obtain⟨p,hp⟩:∃ p,p=l[i]:=⟨_,rfl⟩;rw[<- hp] at g1 c1;(simp(disch:=first|decide|omega|(intros;exact aj rfl rfl)|simp only[aa]) only[uA,Fl,g1,Pr.len,Pr.tk,Pr.tkL,Pr.at0,hc0,hdt,hdr,zF c1,zT hdl,hm,hl2,go_sem,seval,ak])
     refine aB (m:=0) (σ:=Nat) (fun j=>l.length-j) (fun j=>j<=l.length) (fun j=>[vl (l.map Pr.enc),vs dt,V.one (.sl 0 2 0 (B'++(l.take j).filter (fun(p:Pr)=>decide ((c.toNat:Int)<p.key))).length),vi j]) (fun j=>[.arr 2 ((B'++(l.take j).filter (fun(p:Pr)=>decide ((c.toNat:Int)<p.key))).map Pr.enc) 0])
      (fun _=>Z) ?_ 0 (zP _) _ _ (at_head2 (by decide) (by simp only[List.map_cons,List.map_nil,go_sem,seval];exact rfl) (by simp[aK,aH,aC,aQ,ay,V.ren,L.ren,Box.ren,V.refs,L.refs,Box.refs,List.append_nil]) (by simp[aK,aH,aC,aQ,ay,V.ren,L.ren,Box.ren,V.refs,L.refs,Box.refs,List.append_nil]))
     intro j h1 R hR;by_cases hi:j<l.length
     ·have g1:=two j hi;have hf:=oj (fun(p:Pr)=>decide ((c.toNat:Int)<p.key)) l j hi
      have hfl:=n9 (fun(p:Pr)=>decide ((c.toNat:Int)<p.key)) l j
      obtain⟨p,hp⟩:∃ p,p=l[j]:=⟨_,rfl⟩;rw[<- hp] at g1 hf;by_cases c2:(c.toNat:Int)<p.key
      ·rw[if_pos (zT c2)] at hf;have hR':=hR (j+1) (by omega) (by omega)
       rw[hf] at hR';obtain⟨C,hC⟩:∃ C,C=B'++(l.take j).filter (fun(p:Pr)=>decide ((c.toNat:Int)<p.key)):=⟨_,rfl⟩
       have hcl:C.length<=2000001:=by rw[hC,zA];omega
       rw[<- List.append_assoc,<- hC] at hR';rw[<- hC];obtain⟨C',hC',hm1,hm2⟩:∃ C':List Pr,C++[p]=C'∧C.map Pr.enc++[p.enc]=C'.map Pr.enc∧C.length+1=C'.length:=⟨_,rfl,by simp,by simp⟩
       rw[hC'] at hR';(simp(disch:=first|decide|omega|(intros;exact aj rfl rfl)|simp only[aa]) only[jm,g1,Pr.len,Pr.tk,Pr.tkL,Pr.at0,hc0,zT c2,hm1,hm2,go_sem,seval,ak])
       exact hR' _ _ cm
      ·rw[if_neg (by simpa using c2),List.append_nil] at hf
       have hR':=hR (j+1) (by omega) (by omega)
       rw[hf] at hR';generalize B'++(l.take j).filter (fun(p:Pr)=>decide ((c.toNat:Int)<p.key))=C at hR' ⊢
       (simp(disch:=first|decide|omega|(intros;exact aj rfl rfl)|simp only[aa]) only[jm,g1,Pr.len,Pr.tk,Pr.tkL,Pr.at0,hc0,zF c2,go_sem,seval,ak])
       exact hR' _ _ cm
     ·have hj2:l.take j=l:=zL (by omega)
      rw[hj2];obtain⟨C,hC⟩:∃ C,C=B'++l.filter (fun(p:Pr)=>decide ((c.toNat:Int)<p.key)):=⟨_,rfl⟩
      rw[<- hC] at hz ⊢;rw[hz];have ht:List.take C.length (C.map Pr.enc)=C.map Pr.enc:=zL (by simp)
      (simp(disch:=first|decide|omega|(intros;exact aj rfl rfl)|simp only[aa]) only[jm,Fl,ht,go_sem,seval,ak])
      try simp[trim]
    ·(simp(disch:=first|decide|omega|(intros;exact aj rfl rfl)|simp only[aa]) only[uA,Fl,hc0,hdt,hdr,zT hdl,hm,hl2,go_sem,seval,ak])
     refine aB (m:=0) (σ:=Nat) (fun j=>l.length-j) (fun j=>j<=l.length) (fun j=>[vl (l.map Pr.enc),vs dt,V.one (.sl 0 2 0 (B'++(l.take j).filter (fun(p:Pr)=>decide ((c.toNat:Int)<p.key))).length),vi j]) (fun j=>[.arr 2 ((B'++(l.take j).filter (fun(p:Pr)=>decide ((c.toNat:Int)<p.key))).map Pr.enc) 0])
      (fun _=>Z) ?_ 0 (zP _) _ _ (at_head2 (by decide) (by simp only[List.map_cons,List.map_nil,go_sem,seval];exact rfl) (by simp[aK,aH,aC,aQ,ay,V.ren,L.ren,Box.ren,V.refs,L.refs,Box.refs,List.append_nil]) (by simp[aK,aH,aC,aQ,ay,V.ren,L.ren,Box.ren,V.refs,L.refs,Box.refs,List.append_nil]))
     intro j h1 R hR;by_cases hi:j<l.length
     ·have g1:=two j hi;have hf:=oj (fun(p:Pr)=>decide ((c.toNat:Int)<p.key)) l j hi
      have hfl:=n9 (fun(p:Pr)=>decide ((c.toNat:Int)<p.key)) l j
      obtain⟨p,hp⟩:∃ p,p=l[j]:=⟨_,rfl⟩;rw[<- hp] at g1 hf;by_cases c2:(c.toNat:Int)<p.key
      ·rw[if_pos (zT c2)] at hf;have hR':=hR (j+1) (by omega) (by omega)
       rw[hf] at hR';obtain⟨C,hC⟩:∃ C,C=B'++(l.take j).filter (fun(p:Pr)=>decide ((c.toNat:Int)<p.key)):=⟨_,rfl⟩
       have hcl:C.length<=2000001:=by rw[hC,zA];omega
       rw[<- List.append_assoc,<- hC] at hR';rw[<- hC];obtain⟨C',hC',hm1,hm2⟩:∃ C':List Pr,C++[p]=C'∧C.map Pr.enc++[p.enc]=C'.map Pr.enc∧C.length+1=C'.length:=⟨_,rfl,by simp,by simp⟩
       rw[hC'] at hR';(simp(disch:=first|decide|omega|(intros;exact aj rfl rfl)|simp only[aa]) only[jm,g1,Pr.len,Pr.tk,Pr.tkL,Pr.at0,hc0,zT c2,hm1,hm2,go_sem,seval,ak])
       exact hR' _ _ cm
      ·rw[if_neg (by simpa using c2),List.append_nil] at hf
       have hR':=hR (j+1) (by omega) (by omega)
       rw[hf] at hR';generalize B'++(l.take j).filter (fun(p:Pr)=>decide ((c.toNat:Int)<p.key))=C at hR' ⊢
       (simp(disch:=first|decide|omega|(intros;exact aj rfl rfl)|simp only[aa]) only[jm,g1,Pr.len,Pr.tk,Pr.tkL,Pr.at0,hc0,zF c2,go_sem,seval,ak])
       exact hR' _ _ cm
     ·have hj2:l.take j=l:=zL (by omega)
      rw[hj2];obtain⟨C,hC⟩:∃ C,C=B'++l.filter (fun(p:Pr)=>decide ((c.toNat:Int)<p.key)):=⟨_,rfl⟩
      rw[<- hC] at hz ⊢;rw[hz];have ht:List.take C.length (C.map Pr.enc)=C.map Pr.enc:=zL (by simp)
      (simp(disch:=first|decide|omega|(intros;exact aj rfl rfl)|simp only[aa]) only[jm,Fl,ht,go_sem,seval,ak])
      try simp[trim]
def gV (p:Pr):List UInt8:=UInt8.ofNat p.key.toNat::(aq p.val.length++p.val)
def aZ (l:List Pr):List UInt8:=aq l.length++l.flatMap gV
theorem Cx (l:List Pr) (hl:l.length<=1000000) (hb:(aZ l).length<=1000000000) (hk:∀ p∈l,0<=p.key∧p.key<256):call 39 [vl (l.map Pr.enc)] []=some (vs (aZ l),[]):=by
 apply ah SI rfl;have h0:=jA l.length (by omega)
 (simp(disch:=first|decide|omega|(intros;exact aj rfl rfl)|simp only[aa]) only[PT,h0,go_sem,seval,ak])
 refine aB (m:=0) (σ:=Nat) (fun i=>l.length-i) (fun i=>i<=l.length) (fun i=>[vl (l.map Pr.enc),vs (aq l.length++(l.take i).flatMap gV),vi i]) (fun _=>[])
  (fun _=>(vs (aZ l),[])) ?_ 0 (zP _) _ _ (at_head2 (by decide) (by simp only[List.map_cons,List.map_nil,go_sem,seval];exact rfl) (by simp[aK,aH,aC,aQ,ay,V.ren,L.ren,Box.ren,V.refs,L.refs,Box.refs,List.append_nil]) (by simp[aK,aH,aC,aQ,ay,V.ren,L.ren,Box.ren,V.refs,L.refs,Box.refs,List.append_nil]))
 intro i h1 R hR;by_cases hi:i<l.length
 ·have g1:(l.map Pr.enc)[i]?=some l[i].enc:=by rw[zG,zE hi];rfl
  have hnx:aq l.length++(l.take (i+1)).flatMap gV=(aq l.length++(l.take i).flatMap gV)++gV l[i]:=by
   rw[zO hi,List.flatMap_append];simp
  have hle:((aq l.length++(l.take i).flatMap gV)++gV l[i]).length<=1000000000:=by
   rw[<- hnx];refine Nat.le_trans ?_ hb;have e:l.flatMap gV=(l.take (i+1)).flatMap gV++(l.drop (i+1)).flatMap gV:=by rw[<- List.flatMap_append,zY]
   rw[aZ,e];simp;try omega
  have hR':=hR (i+1) (by omega) (by omega)
  rw[hnx] at hR';obtain⟨p,hp⟩:∃ p,p=l[i]:=⟨_,rfl⟩;rw[<- hp] at g1 hle hR';obtain⟨S,hS⟩:∃ S,S=aq l.length++(l.take i).flatMap gV:=⟨_,rfl⟩;rw[<- hS] at hle hR' ⊢;have hpb:(gV p).length=1+(aq p.val.length).length+p.val.length:=by simp[gV];omega
  rw[zA] at hle;have hput:=jA p.val.length (by omega)
  have hbo:fj [[.i .u8 p.key]]=some [UInt8.ofNat p.key.toNat]:=rfl;rw[show S++gV p=((S++[UInt8.ofNat p.key.toNat])++aq p.val.length)++p.val by simp[gV]] at hR'
  rw[hpb] at hle;obtain⟨E,hE⟩:∃ E,E=aq p.val.length:=⟨_,rfl⟩;rw[<- hE] at hR' hput hle;have q1:(S++[UInt8.ofNat p.key.toNat]).length=S.length+1:=by simp
  have q2:((S++[UInt8.ofNat p.key.toNat])++E).length=S.length+1+E.length:=by simp;omega
  obtain⟨S1,hS1⟩:∃ S1,S1=S++[UInt8.ofNat p.key.toNat]:=⟨_,rfl⟩;rw[<- hS1] at q1 q2 hR';obtain⟨S2,hS2⟩:∃ S2,S2=S1++E:=⟨_,rfl⟩;rw[<- hS2] at q2 hR';(simp(disch:=first|decide|omega|(intros;exact aj rfl rfl)|simp only[aa]) only[GX,g1,Pr.len,Pr.tk,Pr.tkL,Pr.at0,Pr.at1,hbo,hput,<- hS1,<- hS2,go_sem,seval,ak,bI,A.kind,A.xs,aD,A.isN])
  exact hR' _ _ cm
 ·have ht:l.take i=l:=zL (by omega)
  rw[ht];(simp(disch:=first|decide|omega|(intros;exact aj rfl rfl)|simp only[aa]) only[GX,PT,go_sem,seval,ak,bI,A.kind,A.xs,aD,A.isN])
  try simp[trim,aZ]
structure SZ (seg:Int) (M:List SR) (g:Seg):Prop where
 old:∀ p∈M,seg<=p.1.size∧p.1.size<=seg+90
 last:g.size<=seg+90
def Py (f seg:Int) (s:Sto) (R:List Rec):Prop:=∃ M g l,Inv f s M g l∧SZ seg M g∧aX (M++[(g,l)])=R
theorem DQ {k u:Nat} {s:Sto} (ho:okS k u s) (h:s.sure<=s.next):s.sure<=(co s).1.sure:=by
 have:=D7 ho h;unfold co;split
 ·exact Int.le_refl _
 ·split
  ·exact this
  ·split <;> exact this
theorem qo (s:Txt):call 92 [vs s] []=some (vb (dm s),[]):=by
 apply ah R0 rfl;unfold dm;cases s with
 | nil=>(simp(disch:=first|decide|omega|(intros;exact aj rfl rfl)|simp only[aa]) only[Pi,go_sem,seval,ak]);try rfl
 | cons a r =>
  have h1:(1:Int)<=((a::r).length:Nat):=by simp;omega
  generalize hq:(a::r)=q at *;have h2:q≠[]:=by rw[<- hq];simp
  by_cases c:q.length<=32
  ·(simp(disch:=first|decide|omega|(intros;exact aj rfl rfl)|simp only[aa]) only[Pi,h1,c,go_sem,seval,ak])
   simp[h2]
  ·(simp(disch:=first|decide|omega|(intros;exact aj rfl rfl)|simp only[aa]) only[Pi,h1,c,go_sem,seval,ak])
   simp[h2]
def mR (l:List Fil) (n:Txt):Int:=if bM l n=true then(ax l n:Nat) else -1
theorem qa {l:List Fil} (hs:srt l) (n:Txt) (i:Nat) (h:i<l.length):l[i].name=n↔(bM l n=true∧i=ax l n):=by
 constructor
 ·rintro rfl;exact⟨xD hs (zN h),(Gp hs i h).symm⟩
 ·rintro⟨h1,rfl⟩;obtain⟨hp,he⟩:=cd h1;exact he
theorem fC (d:Dsk) (hl:d.files.length<=1000000) (hs:srt d.files) (n:Txt):call 47 [.agg d.l,vs n] []=some (vi (mR d.files n),[]):=by
 apply ah SK rfl;obtain⟨fl,cp,ar,lf,dn⟩:=d;simp only at hl hs ⊢;obtain⟨Z,hZ⟩:∃ Z:V,Z=vi (mR fl n):=⟨_,rfl⟩;rw[<- hZ];(simp(disch:=first|decide|omega|(intros;exact aj rfl rfl)|simp only[aa]) only[RW,Dsk.l,go_sem,seval,ak])
 refine aB (m:=0) (σ:=Nat) (fun i=>fl.length-i) (fun i=>i<=fl.length∧(bM fl n=true->i<=ax fl n)) (fun i=>[vs n,V.one (.p 0 0),vi i])
  (fun _=>[.cells [.d (.l (fl.map Fil.enc)),zI cp,zB ar,zI lf,zB dn]]) (fun _=>(Z,[])) ?_ 0 ⟨zP _,fun _=>zP _⟩ _ _ ?_
 rotate_left
 ·exact cm
 rintro i ⟨hi,hp⟩ R hR;by_cases c:i<fl.length
 ·have g1:(fl.map Fil.enc)[i]?=some fl[i].enc:=by simp[c]
  have hk:=qa hs n i c;by_cases c2:fl[i].name=n
  ·have e:(fl[i].name == n)=true:=by rw[c2];exact beq_self_eq_true _
   obtain⟨h1,h2⟩:=hk.1 c2;have hz:mR fl n=i:=by unfold mR;rw[if_pos h1,<- h2]
   rw[hz] at hZ;(simp(disch:=first|decide|omega|(intros;exact aj rfl rfl)|simp only[aa]) only[Bk,c,g1,Fil.len,Fil.at0,e,go_sem,seval,ak])
   rw[hZ];try simp[trim]
  ·have e:(fl[i].name == n)=false:=by rw[beq_eq_false_iff_ne];exact c2
   (simp(disch:=first|decide|omega|(intros;exact aj rfl rfl)|simp only[aa]) only[Bk,c,g1,Fil.len,Fil.at0,e,go_sem,seval,ak])
   exact hR (i+1) (by omega) ⟨by omega,fun h=>by
    have:=hp h;rcases Nat.lt_or_ge i (ax fl n) with h3|h3
    ·omega
    ·exact absurd (hk.2 ⟨h,by omega⟩) c2⟩ _ _ cm
 ·have hz:mR fl n = -1:=by
   unfold mR;rw[if_neg];intro h;obtain⟨h1,_⟩:=cd h;have:=hp h;omega
  rw[hz] at hZ;(simp(disch:=first|decide|omega|(intros;exact aj rfl rfl)|simp only[aa]) only[Bk,c,go_sem,seval,ak])
  rw[hZ];try simp[trim]
theorem Au (d:Dsk) (hl:d.files.length<=1000000) (hu:usedF d.files<=1000000000000):call 132 [.agg d.l] []=some (vi (usedF d.files:Nat),[]):=by
 apply ah Qo rfl;obtain⟨fl,cp,ar,lf,dn⟩:=d;simp only at hl hu ⊢;(simp(disch:=first|decide|omega|(intros;exact aj rfl rfl)|simp only[aa]) only[OA,Dsk.l,go_sem,seval,ak])
 refine aB (m:=0) (σ:=Nat) (fun i=>fl.length-i) (fun i=>i<=fl.length) (fun i=>[V.one (.p 0 0),vi (usedF (fl.take i):Nat),vi i])
  (fun _=>[.cells [.d (.l (fl.map Fil.enc)),zI cp,zB ar,zI lf,zB dn]]) (fun _=>(vi (usedF fl:Nat),[])) ?_ 0 (zP _) _ _ ?_
 rotate_left
 ·exact cm
 intro i hi R hR;by_cases c:i<fl.length
 ·have g1:(fl.map Fil.enc)[i]?=some fl[i].enc:=by simp[c]
  have hK:=hR (i+1) (by omega) (by omega)
  have e1:usedF (fl.take (i+1))=usedF (fl.take i)+fl[i].data.length:=by rw[zO c,cK,gI]
  have h2:=mn fl (i+1);rw[e1] at hK h2;have e2:((usedF (fl.take i)+fl[i].data.length:Nat):Int)=(usedF (fl.take i):Int)+(fl[i].data.length:Int):=by omega
  rw[e2] at hK;(simp(disch:=first|decide|omega|(intros;exact aj rfl rfl)|simp only[aa]) only[Aj,c,g1,Fil.len,Fil.at1,go_sem,seval,ak])
  exact hK _ _ cm
 ·have e:fl.take i=fl:=zL (by omega)
  rw[e];(simp(disch:=first|decide|omega|(intros;exact aj rfl rfl)|simp only[aa]) only[Aj,c,go_sem,seval,ak])
  try simp[trim]
def nO (l:List Fil) (n:Txt):List Fil:=l.filter fun f=>decide (f.name≠n)
def Kj (l:List Fil) (f:Fil):List Fil:=gP (nO l f.name) (ax (nO l f.name) f.name) f
theorem Bf (l:List Fil) (n:Txt):(nO l n).length<=l.length:=List.length_filter_le _ _
theorem Jq {l:List Fil} (hs:srt l) (n:Txt):srt (nO l n):=List.Pairwise.filter _ hs
theorem kD (l:List Fil) (hl:l.length<=1000000) (n:Txt):call 78 [vl (l.map Fil.enc),vs n] []=some (vl ((nO l n).map Fil.enc),[]):=by
 apply ah SF rfl;obtain⟨Z,hZ⟩:∃ Z:V,Z=vl ((nO l n).map Fil.enc):=⟨_,rfl⟩;rw[<- hZ];(simp(disch:=first|decide|omega|(intros;exact aj rfl rfl)|simp only[aa]) only[RS,go_sem,seval,ak])
 refine aB (m:=0) (σ:=Nat) (fun i=>l.length-i) (fun i=>i<=l.length) (fun i=>[vl (l.map Fil.enc),vs n,V.one (.sl 0 3 0 (nO (l.take i) n).length),vi i])
  (fun i=>[.arr 3 ((nO (l.take i) n).map Fil.enc) 0]) (fun _=>(Z,[])) ?_ 0 (zP _) _ _ ?_
 rotate_left
 ·exact cm
 intro i hi R hR;have hln:((nO (l.take i) n).map Fil.enc).length=(nO (l.take i) n).length:=by simp
 have hle:(nO (l.take i) n).length<=1000000:=Nat.le_trans (Bf _ _) (by simp;omega)
 by_cases c:i<l.length
 ·have g1:(l.map Fil.enc)[i]?=some l[i].enc:=by simp[c]
  have hK:=hR (i+1) (by omega) (by omega)
  by_cases c2:l[i].name=n
  ·have e:(l[i].name == n)=true:=by rw[c2];exact beq_self_eq_true _
   have e1:nO (l.take (i+1)) n=nO (l.take i) n:=by
    rw[zO c];unfold nO;rw[List.filter_append];simp[c2]
   rw[e1] at hK;(simp(disch:=first|decide|omega|(intros;exact aj rfl rfl)|simp only[aa]) only[BR,c,g1,Fil.len,Fil.at0,e,go_sem,seval,ak])
   exact hK _ _ cm
  ·have e:(l[i].name == n)=false:=by rw[beq_eq_false_iff_ne];exact c2
   have e1:nO (l.take (i+1)) n=nO (l.take i) n++[l[i]]:=by
    rw[zO c];unfold nO;rw[List.filter_append];simp[c2]
   rw[e1,List.map_append,zA,List.length_singleton] at hK;generalize (nO (l.take i) n).map Fil.enc=Q at *;generalize (nO (l.take i) n).length=q at *;generalize l[i]=f at *;obtain⟨fn,fd,fs⟩:=f;simp only[Fil.enc,List.map_cons,List.map_nil] at g1 e hK;(simp(disch:=first|decide|omega|(intros;exact aj rfl rfl)|simp only[aa]) only[BR,c,g1,e,hln,go_sem,seval,ak])
   exact hK _ _ cm
 ·have e:l.take i=l:=zL (by omega)
  rw[e] at hln hle ⊢;have ht:((nO l n).map Fil.enc).take (nO l n).length=(nO l n).map Fil.enc:=zL (by omega)
  generalize (nO l n).map Fil.enc=Q at *;generalize (nO l n).length=q at *;(simp(disch:=first|decide|omega|(intros;exact aj rfl rfl)|simp only[aa]) only[BR,c,hln,ht,go_sem,seval,ak])
  rw[hZ];try simp[trim]
theorem mf (l:List Fil) (hl:l.length<=1000000) (hs:srt l) (f:Fil):call 58 [vl (l.map Fil.enc),.agg (f.enc.map .d)] []=some (vl ((Kj l f).map Fil.enc),[]):=by
 have q1:=kD l hl f.name;have hml:=Bf l f.name;have hms:=Jq hs f.name;apply ah R6 rfl;unfold Kj;generalize nO l f.name=m at *;have hpi:=iq hms f.name;have hple:=nr m f.name;have hin:(gP m (ax m f.name) f).map Fil.enc=(m.map Fil.enc).take (ax m f.name)++[f.enc]++(m.map Fil.enc).drop (ax m f.name):=by
  rw[<- wC];simp
 rw[hin];generalize hpp:ax m f.name=pp at *;obtain⟨fn,fd,fs⟩:=f;simp only[Fil.enc,List.map_cons,List.map_nil] at *;(simp(disch:=first|decide|omega|(intros;exact aj rfl rfl)|simp only[aa]) only[RA,q1,go_sem,seval,ak])
 refine aB (m:=0) (σ:=Nat) (fun i=>pp-i) (fun i=>i<=pp) (fun i=>[vl (m.map Fil.enc),V.one (.p 0 0),vi i])
  (fun _=>[.cells [zS fn,zS fd,zI fs]]) (fun _=>(vl ((m.map Fil.enc).take pp++[[.s fn,.s fd,.i .i64 fs]]++(m.map Fil.enc).drop pp),[])) ?_ 0 (zP _) _ _ ?_
 rotate_left
 ·exact cm
 intro i hi R hR;have hend:i=pp->∀ (b:Bool),True:=fun _ _=>trivial
 by_cases c:i<m.length
 ·have g1:(m.map Fil.enc)[i]?=some m[i].enc:=by simp[c]
  have hb:=hpi i c;by_cases c2:i<pp
  ·have e:Op.bytesLess m[i].name fn=true:=hb.2 c2;(simp(disch:=first|decide|omega|(intros;exact aj rfl rfl)|simp only[aa]) only[BO,c,g1,Fil.len,Fil.at0,e,go_sem,seval,ak])
   exact hR (i+1) (by omega) (by omega) _ _ cm
  ·have e:Op.bytesLess m[i].name fn=false:=by
    cases h:Op.bytesLess m[i].name fn with
    | true=>exact absurd (hb.1 h) c2
    | false=>rfl
   have hip:i=pp:=by omega
   subst hip;have hb1:=um (n:=m.length) (k:=i) (by omega)
   have hb2:=uK (n:=m.length) (k:=i) (by omega)
   have hok:aR 3 (m.map Fil.enc)=true:=aV Fil.len m;have hok1:aR 3 ((m.map Fil.enc).take i)=true:=by rw[<- List.map_take];exact aV Fil.len _
   have hok2:aR 3 ((m.map Fil.enc).drop i)=true:=by rw[<- List.map_drop];exact aV Fil.len _
   have htk:(m.map Fil.enc).take m.length=m.map Fil.enc:=zL (by simp)
   have hmm:(m.map Fil.enc).length=m.length:=by simp
   generalize m.map Fil.enc=MQ at *;obtain⟨Q1,hQ1⟩:∃ Q1,MQ.take i=Q1:=⟨_,rfl⟩;obtain⟨Q2,hQ2⟩:∃ Q2,MQ.drop i=Q2:=⟨_,rfl⟩;have hq1:Q1.length<=1000000:=by rw[<- hQ1,zQ];omega
   have hq2:Q2.length<=1000000:=by rw[<- hQ2,zH];omega
   rw[hQ1] at hok1 ⊢;rw[hQ2] at hok2 ⊢;(simp(disch:=first|decide|omega|(intros;exact aj rfl rfl)|simp only[aa]) only[aF,BO,c,g1,Fil.len,Fil.at0,e,hb1,hb2,hok,hok1,hok2,htk,hmm,hQ1,hQ2,go_sem,seval,ak,bI,A.kind,A.xs,aD,A.isN])
   simp[zR];exact zL (by simp;omega)
 ·have hip:i=pp:=by omega
  subst hip;have him:i=m.length:=by omega
  have hb1:=um (n:=m.length) (k:=i) (by omega)
  have hb2:=uK (n:=m.length) (k:=i) (by omega)
  have hok:aR 3 (m.map Fil.enc)=true:=aV Fil.len m;have hok1:aR 3 ((m.map Fil.enc).take i)=true:=by rw[<- List.map_take];exact aV Fil.len _
  have hok2:aR 3 ((m.map Fil.enc).drop i)=true:=by rw[<- List.map_drop];exact aV Fil.len _
  have htk:(m.map Fil.enc).take m.length=m.map Fil.enc:=zL (by simp)
  have hmm:(m.map Fil.enc).length=m.length:=by simp
  generalize m.map Fil.enc=MQ at *;obtain⟨Q1,hQ1⟩:∃ Q1,MQ.take i=Q1:=⟨_,rfl⟩;obtain⟨Q2,hQ2⟩:∃ Q2,MQ.drop i=Q2:=⟨_,rfl⟩;have hq1:Q1.length<=1000000:=by rw[<- hQ1,zQ];omega
  have hq2:Q2.length<=1000000:=by rw[<- hQ2,zH];omega
  rw[hQ1] at hok1 ⊢;rw[hQ2] at hok2 ⊢;(simp(disch:=first|decide|omega|(intros;exact aj rfl rfl)|simp only[aa]) only[aF,BO,c,hb1,hb2,hok,hok1,hok2,htk,hmm,hQ1,hQ2,go_sem,seval,ak,bI,A.kind,A.xs,aD,A.isN])
  simp[zR];exact zL (by simp;omega)
theorem bS (d:Dsk) (hL:0<=d.left∧d.left<9223372036854775808) (l:List Fil) (own:Int):call 57 [.agg d.l,vl (l.map Fil.enc),vi own] []=some (aP (am d (l,own)),[]):=by
 apply ah SU rfl;obtain⟨fl,cp,ar,lf,dn⟩:=d;unfold am aP;simp only at hL ⊢;cases dn with
 | true =>
  (simp(disch:=first|decide|omega|(intros;exact aj rfl rfl)|simp only[aa]) only[aF,MR,Dsk.l,go_sem,seval,ak])
  try simp[trim]
 | false =>
  by_cases c:own=0
  ·subst c;cases ar with
   | false =>
    (simp(disch:=first|decide|omega|(intros;exact aj rfl rfl)|simp only[aa]) only[aF,MR,Dsk.l,go_sem,seval,ak])
    try simp[trim]
   | true =>
    by_cases c2:lf=0
    ·subst c2;(simp(disch:=first|decide|omega|(intros;exact aj rfl rfl)|simp only[aa]) only[aF,MR,Dsk.l,go_sem,seval,ak])
     try simp[trim]
    ·have e:(lf == 0)=false:=by simpa using c2
     (simp(disch:=first|decide|omega|(intros;exact aj rfl rfl)|simp only[aa]) only[aF,MR,Dsk.l,c2,e,go_sem,seval,ak])
     try simp[trim,c2]
  ·(simp(disch:=first|decide|omega|(intros;exact aj rfl rfl)|simp only[aa]) only[aF,MR,Dsk.l,c,go_sem,seval,ak])
   try simp[trim,c]
theorem Lz {l:List Fil} (hs:srt l) {n:Txt} (h:bM l n=false):nO l n=l:=by
 unfold nO;rw[List.filter_eq_self];intro f hf;simpa using mA hs h f hf
theorem wz {l:List Fil} (hs:srt l) {n:Txt} (h:bM l n=true):nO l n=eR l (ax l n):=by
 obtain⟨hp,he⟩:=cd h;have hne:∀ i (hi:i<l.length),i≠ax l n->l[i].name≠n:=fun i hi h1 h2=>h1 ((qa hs n i hi).1 h2).2
 have e:l=l.take (ax l n)++(l[ax l n]::l.drop (ax l n+1)):=by rw[<- zD hp,zY]
 unfold nO eR;conv=>lhs;rw[e]
 rw[List.filter_append,List.filter_cons_of_neg (by simp[he]),List.filter_eq_self.2,List.filter_eq_self.2]
 ·intro f hf;obtain⟨i,hi,rfl⟩:=zJ hf;rw[List.getElem_drop];rw[zH] at hi;simpa using hne _ (by omega) (by omega)
 ·intro f hf;obtain⟨i,hi,rfl⟩:=zJ hf;rw[List.getElem_take];rw[zQ] at hi;simpa using hne _ (by omega) (by omega)
theorem I9 {l:List Fil} (hs:srt l) {n:Txt} (h:bM l n=true):ax (eR l (ax l n)) n=ax l n:=by
 obtain⟨hp,he⟩:=cd h;have h1:(l.take (ax l n)).countP (fun f=>bl f.name n)=ax l n:=by
  conv=>rhs;rw[<- Nat.min_eq_left (Nat.le_of_lt hp),<- zQ]
  rw[List.countP_eq_length];intro f hf;obtain⟨i,hi,rfl⟩:=zJ hf;rw[List.getElem_take];rw[zQ] at hi;exact(iq hs n i (by omega)).2 (by omega)
 have h2:(l.drop (ax l n+1)).countP (fun f=>bl f.name n)=0:=by
  rw[List.countP_eq_zero];intro f hf;obtain⟨i,hi,rfl⟩:=zJ hf;rw[List.getElem_drop];rw[zH] at hi;intro h3;have:=(iq hs n _ (by omega)).1 h3
  omega
 unfold eR;show List.countP _ _=_;rw[List.countP_append,h1,h2];rfl
theorem FZ {l:List Fil} (hs:srt l) (f:Fil) (h:bM l f.name=false):Kj l f=gP l (ax l f.name) f:=by unfold Kj;rw[Lz hs h]
theorem vF {l:List Fil} (hs:srt l) (f:Fil) (h:bM l f.name=true):Kj l f=l.set (ax l f.name) f:=by
 unfold Kj;rw[wz hs h,I9 hs h];obtain⟨hp,he⟩:=cd h;generalize ax l f.name=p at *;unfold gP eR;rw[List.set_eq_take_append_cons_drop,if_pos hp];have hl:(l.take p).length=p:=by simp;omega
 congr 1
 ·rw[List.take_append_of_le_length (by omega),zL (by omega)]
 ·congr 1
  rw[List.drop_append_of_le_length (by omega),List.drop_of_length_le (by omega),List.nil_append]
theorem Ih {l:List Fil} (hs:srt l) (f:Fil):Kj l f=iT l f:=by
 unfold iT;cases h:bM l f.name with
 | true=>rw[if_pos rfl];exact vF hs f h
 | false=>rw[if_neg (by simp)];exact FZ hs f h
theorem i5 {l:List Fil} {n:Txt} (h:bM l n=false):mR l n = -1:=by unfold mR;rw[h];rfl
theorem gq {l:List Fil} {n:Txt} (h:bM l n=true):mR l n=(ax l n:Nat):=by unfold mR;rw[if_pos h]
theorem kN (d:Dsk) (hd:d.ok) (n:Txt):call 70 [.agg d.l,vs n] []=some (aP (am d (bh d.files n)),[]):=by
 apply ah S9 rfl;have h1:=qo n;have h2:=fC d hd.len hd.srt n;have h3:=mf d.files hd.len hd.srt ⟨n,[],0⟩;have h4:=bS d hd.left [] 1;have h5:=bS d hd.left [] 8;have h6:=bS d hd.left (Kj d.files ⟨n,[],0⟩) 0;unfold bh;cases c1:dm n with
 | false =>
  rw[c1] at h1;rw[if_neg (by simp)]
  generalize am d ([],1)=r at *;obtain⟨⟨f2,cp2,ar2,lf2,dn2⟩,e2⟩:=r;obtain⟨fl,cp,ar,lf,dn⟩:=d;simp only[aP,Dsk.l,List.map_nil] at h4 ⊢;(simp(disch:=first|decide|omega|(intros;exact aj rfl rfl)|simp only[aa]) only[aF,Pd,h1,h4,go_sem,seval,ak])
  try simp[trim]
 | true =>
  rw[c1] at h1;rw[if_pos rfl];cases c2:bM d.files n with
  | true =>
   rw[if_pos rfl];rw[gq c2] at h2;generalize am d ([],8)=r at *;obtain⟨⟨f2,cp2,ar2,lf2,dn2⟩,e2⟩:=r;obtain⟨fl,cp,ar,lf,dn⟩:=d;simp only[aP,Dsk.l,List.map_nil] at h2 h5 ⊢;(simp(disch:=first|decide|omega|(intros;exact aj rfl rfl)|simp only[aa]) only[aF,Pd,h1,h2,h5,go_sem,seval,ak])
   try simp[trim]
  | false =>
   rw[if_neg (by simp)]
   rw[i5 c2] at h2;rw[FZ hd.srt ⟨n,[],0⟩ c2] at h3 h6;simp only[] at h3 h6;generalize gP d.files (ax d.files n) ⟨n,[],0⟩=q at *;generalize am d (q,0)=r at *;obtain⟨⟨f2,cp2,ar2,lf2,dn2⟩,e2⟩:=r;obtain⟨fl,cp,ar,lf,dn⟩:=d;simp only[aP,Dsk.l,Fil.enc,List.map_cons,List.map_nil] at h2 h3 h6 ⊢;(simp(disch:=first|decide|omega|(intros;exact aj rfl rfl)|simp only[aa]) only[aF,Pd,h1,h2,h3,h6,go_sem,seval,ak])
   try simp[trim]
theorem kn (d:Dsk) (hd:d.ok) (n:Txt):call 56 [.agg d.l,vs n] []=some (aP (am d (bO d.files n)),[]):=by
 apply ah R3 rfl;have h2:=fC d hd.len hd.srt n;have h3:=kD d.files hd.len n;have h4:=bS d hd.left [] 7;have h6:=bS d hd.left (nO d.files n) 0;unfold bO;cases c2:bM d.files n with
 | false =>
  rw[if_neg (by simp)]
  rw[i5 c2] at h2;generalize am d ([],7)=r at *;obtain⟨⟨f2,cp2,ar2,lf2,dn2⟩,e2⟩:=r;obtain⟨fl,cp,ar,lf,dn⟩:=d;simp only[aP,Dsk.l,List.map_nil] at h2 h4 ⊢;(simp(disch:=first|decide|omega|(intros;exact aj rfl rfl)|simp only[aa]) only[aF,Qb,h2,h4,go_sem,seval,ak])
  try simp[trim]
 | true =>
  rw[if_pos rfl];rw[gq c2] at h2;rw[wz hd.srt c2] at h3 h6;generalize eR d.files (ax d.files n)=q at *;generalize am d (q,0)=r at *;obtain⟨⟨f2,cp2,ar2,lf2,dn2⟩,e2⟩:=r;obtain⟨fl,cp,ar,lf,dn⟩:=d;simp only[aP,Dsk.l] at h2 h3 h6 ⊢;(simp(disch:=first|decide|omega|(intros;exact aj rfl rfl)|simp only[aa]) only[aF,Qb,h2,h3,h6,go_sem,seval,ak])
  try simp[trim]
theorem sA (d:Dsk) (hd:d.ok) (n:Txt):call 35 [.agg d.l,vs n] []=some (aP (am d (cq d.files n)),[]):=by
 apply ah Sp rfl;have h2:=fC d hd.len hd.srt n;have h4:=bS d hd.left [] 7;unfold cq;cases c2:bM d.files n with
 | false =>
  rw[if_neg (by simp)]
  rw[i5 c2] at h2;generalize am d ([],7)=r at *;obtain⟨⟨f2,cp2,ar2,lf2,dn2⟩,e2⟩:=r;obtain⟨fl,cp,ar,lf,dn⟩:=d;simp only[aP,Dsk.l,List.map_nil] at h2 h4 ⊢;(simp(disch:=first|decide|omega|(intros;exact aj rfl rfl)|simp only[aa]) only[aF,QE,h2,h4,go_sem,seval,ak])
  try simp[trim]
 | true =>
  rw[if_pos rfl];rw[gq c2] at h2;obtain⟨hp,he⟩:=cd c2;rw[jG hp];have g1:(d.files.map Fil.enc)[ax d.files n]?=some d.files[ax d.files n].enc:=by simp[hp]
  have hdl:=qS d.files _ hp;have hu:=hd.used;have h3:=mf d.files hd.len hd.srt { d.files[ax d.files n] with sure:=d.files[ax d.files n].data.length }
  have h5:=vF hd.srt { d.files[ax d.files n] with sure:=d.files[ax d.files n].data.length } (by simp only[he];exact c2)
  rw[h5] at h3;simp only[he] at h3;have hK:=bS d hd.left (d.files.set (ax d.files n) { d.files[ax d.files n] with sure:=d.files[ax d.files n].data.length }) 0
  have hpl:=hd.len;generalize ax d.files n=p at *;simp only[he] at hK ⊢;generalize d.files[p]=f at *;obtain⟨fn,fd,fs⟩:=f;simp only at he h3 hK hdl ⊢;subst he;generalize d.files.set p ⟨fn,fd,fd.length⟩=q at *;generalize am d (q,0)=r at *;obtain⟨⟨f2,cp2,ar2,lf2,dn2⟩,e2⟩:=r;obtain⟨fl,cp,ar,lf,dn⟩:=d;simp only[aP,Dsk.l,Fil.enc,List.map_cons,List.map_nil] at g1 h2 h3 hK hp hpl ⊢;(simp(disch:=first|decide|omega|(intros;exact aj rfl rfl)|simp only[aa]) only[aF,QE,h2,g1,h3,hK,go_sem,seval,ak])
  try simp[trim]
theorem nU (d:Dsk) (hd:d.ok) (n x:Txt) (hx:x.length<=1000000000000):call 93 [.agg d.l,vs n,vs x] []=some (aP (am d (bH d.files d.cap n x)),[]):=by
 apply ah Sd rfl;have h2:=fC d hd.len hd.srt n;have h4:=bS d hd.left [] 7;have h9:=bS d hd.left [] 9;have hus:=Au d hd.len hd.used;have hul:=hd.used;have hcp:=hd.cap;unfold bH;cases c2:bM d.files n with
 | false =>
  rw[if_neg (by simp)]
  rw[i5 c2] at h2;generalize am d ([],7)=r at *;obtain⟨⟨f2,cp2,ar2,lf2,dn2⟩,e2⟩:=r;obtain⟨fl,cp,ar,lf,dn⟩:=d;simp only[aP,Dsk.l,List.map_nil] at h2 h4 ⊢;(simp(disch:=first|decide|omega|(intros;exact aj rfl rfl)|simp only[aa]) only[aF,Np,h2,h4,go_sem,seval,ak])
  try simp[trim]
 | true =>
  rw[if_pos rfl];rw[gq c2] at h2;obtain⟨hp,he⟩:=cd c2;by_cases c:0<d.cap∧d.cap-(usedF d.files:Nat)<x.length
  ·rw[if_pos c];obtain⟨c3,c4⟩:=c;have c5:d.cap<(usedF d.files:Nat)+(x.length:Int):=by omega
   generalize am d ([],9)=r at *;obtain⟨⟨f2,cp2,ar2,lf2,dn2⟩,e2⟩:=r;obtain⟨fl,cp,ar,lf,dn⟩:=d;have hpl:=hd.len;simp only[aP,Dsk.l,List.map_nil] at h2 h9 hus hul hcp c3 c4 c5 hp hpl ⊢;generalize ax fl n=p at *;(simp(disch:=first|decide|omega|(intros;exact aj rfl rfl)|simp only[aa]) only[aF,Np,h2,c3,hus,c5,h9,go_sem,seval,ak])
   try simp[trim]
  ·rw[if_neg c,jG hp];have g1:(d.files.map Fil.enc)[ax d.files n]?=some d.files[ax d.files n].enc:=by simp[hp]
   have hdl:=qS d.files _ hp;have h3:=mf d.files hd.len hd.srt { d.files[ax d.files n] with data:=d.files[ax d.files n].data++x }
   have h5:=vF hd.srt { d.files[ax d.files n] with data:=d.files[ax d.files n].data++x } (by simp only[he];exact c2)
   rw[h5] at h3;simp only[he] at h3;have hK:=bS d hd.left (d.files.set (ax d.files n) { d.files[ax d.files n] with data:=d.files[ax d.files n].data++x }) 0
   have hpl:=hd.len;generalize ax d.files n=p at *;simp only[he] at hK ⊢;generalize d.files[p]=f at *;obtain⟨fn,fd,fs⟩:=f;simp only at he h3 hK hdl ⊢;subst he;have hfx:fd.length+x.length<=9223372036854775807:=by omega
   obtain⟨fx,hfe⟩:∃ fx,fd++x=fx:=⟨_,rfl⟩;rw[hfe] at h3 hK ⊢;generalize d.files.set p ⟨fn,fx,fs⟩=q at *;generalize am d (q,0)=r at *;obtain⟨⟨f2,cp2,ar2,lf2,dn2⟩,e2⟩:=r;obtain⟨fl,cp,ar,lf,dn⟩:=d;simp only[aP,Dsk.l,Fil.enc,List.map_cons,List.map_nil] at g1 h2 h3 hK hp hpl hus hul hcp c ⊢;by_cases c3:0<cp
   ·have c5:¬ cp<(usedF fl:Nat)+(x.length:Int):=by omega
    (simp(disch:=first|decide|omega|(intros;exact aj rfl rfl)|simp only[aa]) only[aF,Np,h2,c3,hus,c5,g1,hfe,h3,hK,go_sem,seval,ak])
    try simp[trim]
   ·(simp(disch:=first|decide|omega|(intros;exact aj rfl rfl)|simp only[aa]) only[aF,Np,h2,c3,g1,hfe,h3,hK,go_sem,seval,ak])
    try simp[trim]
theorem n8 (d:Dsk) (hd:d.ok) (n t:Txt):call 94 [.agg d.l,vs n,vs t] []=some (aP (am d (ii d.files n t)),[]):=by
 apply ah S5 rfl;have h1:=qo t;have h2:=fC d hd.len hd.srt n;have h4:=bS d hd.left [] 7;have h9:=bS d hd.left [] 1;unfold ii;cases c2:bM d.files n with
 | false =>
  rw[if_neg (by simp)]
  rw[i5 c2] at h2;generalize am d ([],7)=r at *;obtain⟨⟨f2,cp2,ar2,lf2,dn2⟩,e2⟩:=r;obtain⟨fl,cp,ar,lf,dn⟩:=d;simp only[aP,Dsk.l,List.map_nil] at h2 h4 ⊢;(simp(disch:=first|decide|omega|(intros;exact aj rfl rfl)|simp only[aa]) only[aF,Pk,h2,h4,go_sem,seval,ak])
  try simp[trim]
 | true =>
  rw[if_pos rfl];rw[gq c2] at h2;obtain⟨hp,he⟩:=cd c2;cases c1:dm t with
  | false =>
   rw[c1] at h1;rw[if_neg (by simp)]
   have hpl:=hd.len;generalize am d ([],1)=r at *;obtain⟨⟨f2,cp2,ar2,lf2,dn2⟩,e2⟩:=r;obtain⟨fl,cp,ar,lf,dn⟩:=d;simp only[aP,Dsk.l,List.map_nil] at h2 h9 hp hpl ⊢;generalize ax fl n=p at *;(simp(disch:=first|decide|omega|(intros;exact aj rfl rfl)|simp only[aa]) only[aF,Pk,h2,h1,h9,go_sem,seval,ak])
   try simp[trim]
  | true =>
   rw[c1] at h1;rw[if_pos rfl];have g1:(d.files.map Fil.enc)[ax d.files n]?=some d.files[ax d.files n].enc:=by simp[hp]
   have h3:=kD d.files hd.len n;rw[wz hd.srt c2] at h3;have hds:=kQ hd.srt (ax d.files n);have hdl:=om _ _ hp;have hpl:=hd.len;have hna:eT d.files (ax d.files n) t={ d.files[ax d.files n] with name:=t }:=by unfold eT;rw[zE hp]
   have h5:=mf (eR d.files (ax d.files n)) (by omega) hds (eT d.files (ax d.files n) t)
   rw[Ih hds] at h5;generalize iT (eR d.files (ax d.files n)) (eT d.files (ax d.files n) t)=q at *;have hK:=bS d hd.left q 0;rw[hna] at h5;generalize eR d.files (ax d.files n)=dq at *;generalize ax d.files n=p at *;generalize d.files[p]=f at *;obtain⟨fn,fd,fs⟩:=f;generalize am d (q,0)=r at *;obtain⟨⟨f2,cp2,ar2,lf2,dn2⟩,e2⟩:=r;obtain⟨fl,cp,ar,lf,dn⟩:=d;simp only[aP,Dsk.l,Fil.enc,List.map_cons,List.map_nil] at g1 h2 h3 h5 hK hp hpl ⊢;(simp(disch:=first|decide|omega|(intros;exact aj rfl rfl)|simp only[aa]) only[aF,Pk,h2,h1,g1,h3,h5,hK,go_sem,seval,ak])
   try simp[trim]
theorem AG (d:Dsk) (hl:d.files.length<=1000000) (hs:srt d.files) (n:Txt):call 26 [.agg d.l,vs n] []=some (.tup [(false,[.d (.s (bZ d.files n).1)]),(false,[.d (.i .i64 (bZ d.files n).2)])],[]):=by
 apply ah R5 rfl;have h2:=fC d hl hs n;cases c2:bM d.files n with
 | false =>
  have hr:bZ d.files n=([],7):=by
   unfold bZ;unfold bM at c2;cases hf:d.files[ax d.files n]? with
   | none=>rfl
   | some f =>
    rw[hf] at c2;simp only[] at c2 ⊢;rw[if_neg (by simpa using c2)]
  rw[i5 c2] at h2;rw[hr];obtain⟨fl,cp,ar,lf,dn⟩:=d;simp only[Dsk.l] at h2 ⊢;(simp(disch:=first|decide|omega|(intros;exact aj rfl rfl)|simp only[aa]) only[aF,QF,h2,go_sem,seval,ak])
  try simp[trim]
 | true =>
  obtain⟨hp,he⟩:=cd c2;have hr:bZ d.files n=(d.files[ax d.files n].data,0):=by
   unfold bZ;rw[zE hp];simp[he]
  rw[gq c2] at h2;rw[hr];have g1:(d.files.map Fil.enc)[ax d.files n]?=some d.files[ax d.files n].enc:=by simp[hp]
  generalize ax d.files n=p at *;generalize d.files[p]=f at *;obtain⟨fn,fd,fs⟩:=f;obtain⟨fl,cp,ar,lf,dn⟩:=d;simp only[Dsk.l,Fil.enc] at g1 h2 hp hl ⊢;(simp(disch:=first|decide|omega|(intros;exact aj rfl rfl)|simp only[aa]) only[aF,QF,h2,g1,go_sem,seval,ak])
  try simp[trim]
def jr (n k:Nat):Txt:=(List.range k).map fun j=>UInt8.ofNat (iN n (14-k+j))
theorem yW (n k:Nat) (h:k<13):jr n (k+1)=UInt8.ofNat (iN n (13-k))::jr n k:=by
 unfold jr;rw[List.range_succ_eq_map,List.map_cons,List.map_map];have e:14-(k+1)+0=13-k:=by omega
 rw[e];congr 1
 apply List.map_congr_left;intro j hj;simp only[Function.comp];have e2:14-(k+1)+(j+1)=14-k+j:=by omega
 rw[Nat.succ_eq_add_one,e2]
theorem yj (n:Nat) (hn:n<=1099511627776):call 52 [vi n] []=some (vs (jr n 13),[]):=by
 apply ah Sl rfl;(simp(disch:=first|decide|omega|(intros;exact aj rfl rfl)|simp only[aa]) only[RY,go_sem,seval,ak])
 obtain⟨Z,hZ⟩:∃ Z:V,Z=vs (jr n 13):=⟨_,rfl⟩;rw[<- hZ];refine aB (m:=0) (σ:=Nat) (fun i=>13-i) (fun i=>i<=13) (fun i=>[vi (n / 10 ^ i:Nat),vs (jr n i),vi i])
  (fun _=>[]) (fun _=>(Z,[])) ?_ 0 (by decide) _ _ ?_
 rotate_left
 ·have e:n / 10 ^ 0=n:=by simp
  rw[e];exact cm
 intro i hi R hR;by_cases c:i<13
 ·have ci:(i:Int)<13:=by omega
  have hK:=hR (i+1) (by omega) (by omega)
  rw[yW n i c] at hK;have hq:n / 10 ^ (i+1)=n / 10 ^ i / 10:=by rw[Nat.pow_succ,Nat.div_div_eq_div_mul]
  rw[hq] at hK;have hdg:iN n (13-i)=48+n / 10 ^ i % 10:=by
   unfold iN;have:13-(13-i)=i:=by omega
   rw[this]
  rw[hdg] at hK;have hqn:n / 10 ^ i<=n:=Nat.div_le_self _ _;have hlt:(jr n i).length=i:=by simp[jr]
  generalize jr n i=T at *;generalize n / 10 ^ i=q at *;have hm:((q:Nat):Int).tmod 10=((q % 10:Nat):Int):=by rw[Int.tmod_eq_emod_of_nonneg (by omega)];omega
  have hd:((q:Nat):Int).tdiv 10=((q / 10:Nat):Int):=by rw[Int.tdiv_eq_ediv_of_nonneg (by omega)];omega
  have hw:IntKind.u8.wrap (48+((q % 10:Nat):Int))=((48+q % 10:Nat):Int):=by rw[qL (by omega)];omega
  (simp(disch:=first|decide|omega|(intros;exact aj rfl rfl)|simp only[aa]) only[Gw,ci,hm,hd,hw,fj,hlt,go_sem,seval,ak])
  exact hK _ _ cm
 ·have hie:i=13:=by omega
  subst hie;(simp(disch:=first|decide|omega|(intros;exact aj rfl rfl)|simp only[aa]) only[Gw,go_sem,seval,ak])
  try rw[hZ]
  try simp[trim]
theorem DE {n:Int} (h:0<=n∧n<=1099511627776):call 32 [vi n] []=some (vs (fileN n),[]):=by
 have h1:=yj n.toNat (by omega)
 have e:((n.toNat:Nat):Int)=n:=by omega
 rw[e] at h1;have e2:fileN n=115::jr n.toNat 13:=by
  unfold fileN fc jr;congr 1
 have hl:(jr n.toNat 13).length=13:=by simp[jr]
 rw[e2];generalize jr n.toNat 13=T at *;have c1:¬ n<0:=by omega
 have c2:¬ (1099511627776:Int)<n:=by omega
 apply ah ST rfl;(simp(disch:=first|decide|omega|(intros;exact aj rfl rfl)|simp only[aa]) only[Rw,c1,c2,h1,hl,go_sem,seval,ak])
 try simp[trim]
end Go.Proofs.YtgoifbjgmgbihaaGreat
