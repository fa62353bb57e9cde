import Derived.Test.YtgoifbjgmgbihaaGreatT03
import Derived.Test.YtgoifbjgmgbihaaGreatT02
set_option linter.unusedSimpArgs false
set_option linter.unusedVariables false
set_option maxRecDepth 20000
set_option maxHeartbeats 16000000
namespace Go.Proofs.YtgoifbjgmgbihaaGreat
open Go.Vi
def la (s:Sto):Sto:={ s with ver:=s.ver+1,segs:=s.segs++[⟨s.next,0,0⟩] }
def eK (s:Sto):Dsk × Int :=
 let c:=bR (fileN s.next) (s.disk,0)
 if c.2=0 then cV (fileN s.next) (bT (la s).man c) else c
def cC (s:Sto):Sto × Int :=
 if 64<=s.segs.length then(s,9) else
  if(aW s).2≠0 then aW s else
   if(eK (aW s).1).2=0 then({ la (aW s).1 with disk:=(eK (aW s).1).1 },0)
   else({ (aW s).1 with disk:=(eK (aW s).1).1 },(eK (aW s).1).2)
theorem lE {k u:Nat} {s:Sto} (h:okS k u s):okS k u (aW s).1:=by
 refine⟨?_,h.len,h.seg,h.next,h.ver,h.sum⟩;have:=lw (s:=(s.disk,0)) h.dsk (fileN s.last.base);exact this
theorem xh {k u:Nat} (s:Sto) (h:okS k u s) (hk:k<=800000) (hu:u<=800000000000):call 101 [.agg s.l] []=some (cf (cC s),[]):=by
 have q1:=qT s h hk hu;have h1:=lE h;have hsl:(aW s).1.segs=s.segs:=rfl;apply ae T8 rfl;unfold cC;by_cases c0:64<=s.segs.length
 ·rw[if_pos c0];obtain⟨⟨fl,cp,ar,lf,dn⟩,ver,segs,next,sure,size,sum⟩:=s;simp only at c0;have c1:(64:Int)<=segs.length:=by omega
  refine bh ?_ F5.eq_1 c1 @cf.eq_1 @Sto.l.eq_1 @Dsk.l.eq_1;try simp[trim]
 ·rw[if_neg c0];have c1:¬ (64:Int)<=s.segs.length:=by omega
  rw[<- hsl] at c1;generalize aW s=r at *;obtain⟨s1,e1⟩:=r;simp only at q1 h1 hsl c1 ⊢;by_cases c2:e1=0
  ·subst c2;rw[if_neg (by simp)]
   have q2:=mC h1.next;have q3:=qt (s1.disk,0) (h1.dsk.ok (by omega) (by omega)) (fileN s1.next)
   have k1:=fG (s:=(s1.disk,0)) h1.dsk (fileN s1.next);have q4:=vB (la s1) (by have:=h1.len;show(s1.segs++[_]).length<=_;simp;omega)
   have q5:=fun c (h:okN (k+1) u c.1)=>uw c h (by omega) (by omega) (la s1).man ⟨by have:=h1.len;show((s1.segs++[_]).map _).length<=_;simp;omega,h1.sum⟩
   have q5:=q5 _ k1;have k2:=iS k1 (la s1).man;have q6:=qJ _ (k2.ok (by omega) (by omega)) (fileN s1.next)
   have k3:=mb k2 (fileN s1.next);unfold eK;simp only[];generalize bR (fileN s1.next) (s1.disk,0)=c at *;generalize bT (la s1).man c=d at *;generalize cV (fileN s1.next) d=t at *;generalize fileN s1.next=N at *;obtain⟨⟨fl,cp,ar,lf,dn⟩,ver,segs,next,sure,size,sum⟩:=s;obtain⟨⟨fl1,cp1,ar1,lf1,dn1⟩,ver1,segs1,next1,sure1,size1,sum1⟩:=s1;obtain⟨⟨fl2,cp2,ar2,lf2,dn2⟩,e2⟩:=c;obtain⟨⟨fl3,cp3,ar3,lf3,dn3⟩,e3⟩:=d;obtain⟨⟨fl4,cp4,ar4,lf4,dn4⟩,e4⟩:=t;simp only at hsl;subst hsl;have hver:=h1.ver;have hlen:=h1.len;simp only[fK,Dsk.l,Sto.l,Sto.man,la,Man.l,cf,List.cons_append,List.nil_append,List.map_cons,List.map_nil,List.map_append,Seg.enc] at q1 q2 q3 q4 q5 q6 c1 hver hlen ⊢;have hok:aV 3 (segs1.map Seg.enc)=true:=aZ Seg.len segs1;have htk:(segs1.map Seg.enc).take segs1.length=segs1.map Seg.enc:=zL (by simp)
   have hb:=wR (Nat.le_refl segs1.length);have r3:∀ P Q R T:Box,ak call 137 [.one (.p 4 0),vs N] [P,Q,R,T,.cells [.d (.l (fl1.map Fil.enc)),zI cp1,zB ar1,zI lf1,zB dn1,zI 0]]=some (.tup [],[P,Q,R,T,.cells [.d (.l (fl2.map Fil.enc)),zI cp2,zB ar2,zI lf2,zB dn2,zI e2]]):=fun P Q R T =>
    aF (ids:=[4]) rfl rfl rfl q3 rfl
   have r5:∀ P Q R T:Box,ak call 138 [.one (.p 4 0),.agg [zI (ver1+1),.d (.l ((segs1.map Seg.base).map eI++[eI next1])),zI size1,zW sum1]] [P,Q,R,T,.cells [.d (.l (fl2.map Fil.enc)),zI cp2,zB ar2,zI lf2,zB dn2,zI e2]]=some (.tup [],[P,Q,R,T,.cells [.d (.l (fl3.map Fil.enc)),zI cp3,zB ar3,zI lf3,zB dn3,zI e3]]):=fun P Q R T =>
    aF (ids:=[4]) rfl rfl rfl q5 rfl
   have r6:∀ P Q R T:Box,ak call 139 [.one (.p 4 0),vs N] [P,Q,R,T,.cells [.d (.l (fl3.map Fil.enc)),zI cp3,zB ar3,zI lf3,zB dn3,zI e3]]=some (.tup [],[P,Q,R,T,.cells [.d (.l (fl4.map Fil.enc)),zI cp4,zB ar4,zI lf4,zB dn4,zI e4]]):=fun P Q R T =>
    aF (ids:=[4]) rfl rfl rfl q6 rfl
   by_cases c3:e2=0
   ·subst c3;by_cases c4:e4=0
    ·subst c4;(simp(disch:=first|decide|omega|(intros;exact aP rfl rfl)|simp only[am]) only[fU,F5,q1,c1,hver,q2,hok,htk,hb,↓r3,q4,↓r5,↓r6,go_sem,seval,aO,gL,A.kind,A.xs,co,A.isN])
     try simp[trim]
     try rfl
    ·(simp(disch:=first|decide|omega|(intros;exact aP rfl rfl)|simp only[am]) only[fU,F5,q1,c1,hver,q2,hok,htk,hb,↓r3,q4,↓r5,↓r6,c4,go_sem,seval,aO,gL,A.kind,A.xs,co,A.isN])
     try simp[trim,c4]
   ·(simp(disch:=first|decide|omega|(intros;exact aP rfl rfl)|simp only[am]) only[fU,F5,q1,c1,hver,q2,hok,htk,hb,↓r3,c3,go_sem,seval,aO,gL,A.kind,A.xs,co,A.isN])
    try simp[trim,c3]
  ·rw[if_pos c2];obtain⟨⟨fl,cp,ar,lf,dn⟩,ver,segs,next,sure,size,sum⟩:=s;obtain⟨⟨fl1,cp1,ar1,lf1,dn1⟩,ver1,segs1,next1,sure1,size1,sum1⟩:=s1;simp only at hsl;subst hsl;simp only[Dsk.l,Sto.l,cf,List.cons_append,List.nil_append] at q1 c1 ⊢;refine cm ?_ F5.eq_1 q1 c1 c2;try simp[trim]
theorem okS.up {k u k' u':Nat} {s:Sto} (h:okS k u s) (hk:k<=k') (hu:u<=u'):okS k' u' s :=
 ⟨h.dsk.up hk hu,h.len,fun g hg=>by have:=h.seg g hg;omega,h.next,by have:=h.ver;omega,h.sum⟩
theorem K7 {k u:Nat} {s:Sto} (h:okS k u s):okN (k+2) (u+800) (eK s).1:=by
 unfold eK;simp only[];have k1:=fG (s:=(s.disk,0)) h.dsk (fileN s.next);split
 ·exact mb (iS k1 _) _
 ·exact k1.up (by omega) (by omega)
theorem vx {k u:Nat} {s:Sto} (h:okS k u s):okS (k+2) (u+800) (cC s).1:=by
 unfold cC;have h1:=lE h;have hsl:(aW s).1.segs=s.segs:=rfl;split
 ·exact h.up (by omega) (by omega)
 ·rename_i c;split
  ·exact h1.up (by omega) (by omega)
  ·have hd:=K7 h1;generalize (aW s).1=s1 at *;have h2:=h1.up (k':=k+2) (u':=u+800) (by omega) (by omega)
   split
   ·refine⟨hd,?_,?_,h2.next,?_,h2.sum⟩
    ·show 1<=(s1.segs++[_]).length∧(s1.segs++[_]).length<=64;rw[zA,List.length_singleton,hsl];omega
    ·intro g hg;rcases zX.1 hg with hg|hg
     ·exact h2.seg g hg
     ·rw[zV.1 hg];exact⟨h1.next,by simp only[];omega,by simp only[];omega⟩
    ·show 0<=s1.ver+1∧s1.ver+1<=_;have:=h1.ver;omega
   ·exact⟨hd,h2.len,h2.seg,h2.next,h2.ver,h2.sum⟩
def fj (r:Rec):Txt × Int:=if whyF r=0 then(aJ (bI r),0) else([],whyF r)
theorem AV (r:Rec):(fj r).1.length<=90:=by
 unfold fj;split
 ·rename_i h;have hb:=(mD.1 h).blen;have h9:=eC (n:=(bI r).length) (by omega)
  show(aJ (bI r)).length<=90;rw[gu];omega
 ·simp
def Ci (s:Sto) (n:Nat):Sto:={ s with segs:=s.segs.dropLast++[⟨s.last.base,s.last.n+1,s.last.size+n⟩],next:=s.next+1 }
def gc (t:Sto) (x:Txt):Sto × Int :=
 let d:=ai t.disk (bM t.disk.files t.disk.cap (fileN t.last.base) x)
 if d.2≠0 then({ t with disk:=d.1 },d.2) else({ Ci t x.length with disk:=d.1 },0)
def eQ (s:Sto) (seg:Int) (r:Rec):Sto × Int :=
 if(fj r).2≠0∨r.at_≠s.next then(s,1) else
  if 1099511627776<=s.next then(s,13) else
   if seg<=s.last.size then(if(cC s).2≠0 then cC s else gc (cC s).1 (fj r).1) else gc s (fj r).1
theorem EX {k u:Nat} {s:Sto} (h:okS k u s) (x:Txt) (hn:s.next<1099511627776):okS k (u+x.length+1) (gc s x).1:=by
 have h1:=jM (s:=(s.disk,0)) h.dsk (fileN s.last.base) x;have h2:okN k (u+x.length+1) (ai s.disk (bM s.disk.files s.disk.cap (fileN s.last.base) x)).1:=okN.up (k:=k) (u:=u+x.length) h1 (Nat.le_refl _) (by omega)
 have h3:=h.up (k':=k) (u':=u+x.length+1) (Nat.le_refl _) (by omega)
 unfold gc;simp only[];split
 ·exact⟨h2,h3.len,h3.seg,h3.next,h3.ver,h3.sum⟩
 ·refine⟨h2,?_,?_,?_,h3.ver,h3.sum⟩
  ·show 1<=(s.segs.dropLast++[_]).length∧(s.segs.dropLast++[_]).length<=64;have:=h.len;rw[zA,List.length_singleton,List.length_dropLast];omega
  ·intro g hg;rcases zX.1 hg with hg|hg
   ·exact h3.seg g (List.dropLast_subset _ hg)
   ·rw[zV.1 hg];have:=h.seg _ (pW h.len.1);exact⟨this.1,by simp only[];omega,by simp only[];omega⟩
  ·show 0<=s.next+1∧s.next+1<=_;have:=h.next;omega
theorem ET {k u:Nat} {s:Sto} (h:okS k u s) (seg:Int) (r:Rec):okS (k+2) (u+1000) (eQ s seg r).1:=by
 have hl:=AV r;unfold eQ;have hr:=vx h;split
 ·exact h.up (by omega) (by omega)
 ·split
  ·exact h.up (by omega) (by omega)
  ·rename_i c;split
   ·split
    ·exact hr.up (by omega) (by omega)
    ·have hn:(cC s).1.next=s.next:=by
      unfold cC aW la;split
      ·rfl
      ·split
       ·rfl
       ·split <;> rfl
     exact(EX hr _ (by rw[hn];omega)).up (by omega) (by omega)
   ·exact(EX h _ (by omega)).up (by omega) (by omega)
theorem uD (s:Sto):(cC s).1.next=s.next:=by
 unfold cC aW la;split
 ·rfl
 ·split
  ·rfl
  ·split <;> rfl
theorem Qk (l:List Seg):l.dropLast.map Seg.enc=(l.map Seg.enc).take (l.length-1):=by
 rw[List.map_dropLast,List.dropLast_eq_take,zM]
theorem M0 (l:List Seg) (k:Nat):aV 3 ((l.map Seg.enc).take k)=true:=by
 rw[<- List.map_take];exact aZ Seg.len _
theorem sy {k u:Nat} (s t:Sto) (h:okS k u s) (ht:okS k u t) (hn:t.next<1099511627776) (hk:k<=800000) (hu:u<=800000000000) (seg:Int) (r:Rec) (tx:Txt) (hx:tx.length<=90)
  (q1:call 99 [.agg (r.enc.map .d)] []=some (.tup [(false,[zS tx]),(false,[zI 0])],[])) (c2:r.at_=s.next) (c3:s.next<1099511627776)
  (hc:(seg<=s.last.size∧cC s=(t,0))∨(¬ seg<=t.last.size∧t=s)) :
  call 84 [.agg s.l,vi seg,.agg (r.enc.map .d)] []=some (cf (gc t tx),[]):=by
 have q2:=lV s s.last (by have:=h.len;omega) (rM h.len.1)
 have q3:=xh s h hk hu;have q5:=lV t t.last (by have:=ht.len;omega) (rM ht.len.1)
 have q6:=mC (ht.seg _ (pW ht.len.1)).1;have q7:=kW t.disk (ht.dsk.ok (by omega) (by omega)) (fileN t.last.base) tx (by omega)
 have q8:=fun d:Dsk=>lV { t with disk:=d } t.last (by have:=ht.len;show t.segs.length<=_;omega) (rM ht.len.1)
 have hsz:=(ht.seg _ (pW ht.len.1)).2;have hlen:=ht.len;have hnx:=ht.next;have hdl:=Qk t.segs;have hok:=M0 t.segs (t.segs.length-1);have hb:=wR (n:=t.segs.length) (k:=t.segs.length-1) (by omega)
 have hki:((t.segs.length:Int)-1)=((t.segs.length-1:Nat):Int):=by omega
 unfold gc Ci;simp only[];generalize ai t.disk (bM t.disk.files t.disk.cap (fileN t.last.base) tx)=d at *;have q8:=q8 d.1;generalize fileN t.last.base=N at *;generalize t.last=g at *;generalize s.last=g0 at *;generalize cC s=rr at *;obtain⟨b,n,z⟩:=g;obtain⟨b0,n0,z0⟩:=g0;obtain⟨⟨fl,cp,ar,lf,dn⟩,ver,segs,next,sure,size,sum⟩:=s;obtain⟨⟨fl1,cp1,ar1,lf1,dn1⟩,ver1,segs1,next1,sure1,size1,sum1⟩:=t;obtain⟨⟨fl2,cp2,ar2,lf2,dn2⟩,e2⟩:=d;obtain⟨at_,ti,da⟩:=r;simp only[Rec.enc,Seg.enc,List.map_cons,List.map_nil,Sto.l,Dsk.l,aK,List.cons_append,List.nil_append] at q1 q2 q3 q5 q6 q7 q8 c2 c3 hn hsz hlen hnx hdl hok hb hki hc ⊢;subst c2;have c3':¬ 1099511627776<=at_:=by omega
 obtain⟨Q,hQ⟩:∃ Q,(segs1.map Seg.enc).take (segs1.length-1)=Q:=⟨_,rfl⟩;have hQl:Q.length<=64:=by rw[<- hQ];simp;omega
 rw[hQ] at hok hdl;apply ae RA rfl;rcases hc with⟨c4,rfl⟩|⟨c4,he⟩
 ·simp only[cf,Sto.l,Dsk.l,List.cons_append,List.nil_append] at q3;by_cases c5:e2=0
  ·subst c5;refine cm ?_ M1.eq_1 q1 c3' q2 c4 q3 q5 q6 q7 q8 hki (And.intro hb (And.intro hok hQ));try simp[trim,cf,Sto.l,Dsk.l,hdl,Seg.enc]
  ·refine cm ?_ M1.eq_1 q1 c3' q2 c4 q3 q5 q6 q7 q8 c5;try simp[trim,c5,cf,Sto.l,Dsk.l]
 ·simp only[Sto.mk.injEq,Dsk.mk.injEq] at he;obtain⟨⟨rfl,rfl,rfl,rfl,rfl⟩,rfl,rfl,rfl,rfl,rfl,rfl⟩:=he;clear q2 q3;by_cases c5:e2=0
  ·subst c5;refine cm ?_ M1.eq_1 q1 c3' c4 q5 q6 q7 q8 hki hb hok hQ;try simp[trim,cf,Sto.l,Dsk.l,hdl,Seg.enc]
  ·refine cm ?_ M1.eq_1 q1 c3' c4 q5 q6 q7 q8 c5;try simp[trim,c5,cf,Sto.l,Dsk.l]
theorem DA {k u:Nat} (s:Sto) (h:okS k u s) (hk:k<=700000) (hu:u<=700000000000) (seg:Int) (r:Rec) (hr:r.ok):call 84 [.agg s.l,vi seg,.agg (r.enc.map .d)] []=some (cf (eQ s seg r),[]):=by
 have q1:=BN r hr;have hpl:=AV r;have e1:putR r=.tup [(false,[.d (.s (fj r).1)]),(false,[.d (.i .i64 (fj r).2)])]:=by unfold putR fj;split <;> rfl
 rw[e1] at q1;unfold eQ;generalize fj r=p at *;obtain⟨tx,pe⟩:=p;simp only at q1 hpl ⊢;by_cases c1:pe=0
 ·subst c1;by_cases c2:r.at_=s.next
  ·rw[if_neg (by simp[c2])]
   by_cases c3:1099511627776<=s.next
   ·rw[if_pos c3];obtain⟨⟨fl,cp,ar,lf,dn⟩,ver,segs,next,sure,size,sum⟩:=s;obtain⟨at_,ti,da⟩:=r;simp only[Rec.enc,List.map_cons,List.map_nil] at q1 c2 c3 ⊢;subst c2;apply ae RA rfl;refine bh ?_ M1.eq_1 q1 c3 @cf.eq_1 @Sto.l.eq_1 @Dsk.l.eq_1;try simp[trim]
   ·rw[if_neg c3];by_cases c4:seg<=s.last.size
    ·rw[if_pos c4];by_cases c5:(cC s).2=0
     ·rw[if_neg (by simp[c5])]
      have hn:(cC s).1.next=s.next:=uD s;exact sy (k:=k+2) (u:=u+800) s (cC s).1 (h.up (by omega) (by omega)) (vx h) (by rw[hn];omega) (by omega) (by omega) seg r tx hpl q1 c2 (by omega) (.inl ⟨c4,by rw[<- c5]⟩)
     ·rw[if_pos c5];have q2:=lV s s.last (by have:=h.len;omega) (rM h.len.1)
      have q3:=xh s h (by omega) (by omega)
      generalize cC s=t at *;generalize s.last=g at *;obtain⟨b,n,z⟩:=g;obtain⟨⟨fl,cp,ar,lf,dn⟩,ver,segs,next,sure,size,sum⟩:=s;obtain⟨⟨⟨fl1,cp1,ar1,lf1,dn1⟩,ver1,segs1,next1,sure1,size1,sum1⟩,e⟩:=t;obtain⟨at_,ti,da⟩:=r;simp only[Rec.enc,Seg.enc,List.map_cons,List.map_nil,Sto.l,Dsk.l,cf,List.cons_append,List.nil_append] at q1 q2 q3 c2 c3 c4 c5 ⊢;subst c2;apply ae RA rfl;refine bh ?_ M1.eq_1 q1 c3 q2 c4 q3 c5;try simp[trim,c5]
    ·rw[if_neg c4];exact sy (k:=k) (u:=u) s s h h (by omega) (by omega) (by omega) seg r tx hpl q1 c2 (by omega) (.inr ⟨c4,rfl⟩)
  ·rw[if_pos (.inr c2)];obtain⟨⟨fl,cp,ar,lf,dn⟩,ver,segs,next,sure,size,sum⟩:=s;obtain⟨at_,ti,da⟩:=r;simp only[Rec.enc,List.map_cons,List.map_nil] at q1 c2 ⊢;apply ae RA rfl;refine bh ?_ M1.eq_1 q1 c2 @cf.eq_1 @Sto.l.eq_1 @Dsk.l.eq_1;try simp[trim]
 ·rw[if_pos (.inl c1)];obtain⟨⟨fl,cp,ar,lf,dn⟩,ver,segs,next,sure,size,sum⟩:=s;obtain⟨at_,ti,da⟩:=r;simp only[Rec.enc,List.map_cons,List.map_nil] at q1 ⊢;apply ae RA rfl;refine bh ?_ M1.eq_1 q1 c1 @cf.eq_1 @Sto.l.eq_1 @Dsk.l.eq_1;try simp[trim]
theorem de (l:List Fil) (n:Txt):(az l n).1.length<=usedF l:=by
 unfold az;split
 ·rename_i f hf;split
  ·obtain⟨h,rfl⟩:=List.getElem?_eq_some_iff.1 hf;have h1:=n5 l (au l n+1);rw[zO h,cW,gM] at h1;simp only[];omega
  ·simp
 ·simp
def Sto.floor (s:Sto):Int:=match s.segs with|[]=>0|g::_=>g.base
def Sto.txt (s:Sto) (g:Seg):Txt:=(az s.disk.files (fileN g.base)).1
def hasD (l:List Fil) (n d:Txt):Prop:=∃ f∈l,f.name=n∧f.data=d
theorem qR {l:List Fil} {n d:Txt} (hs:srt l) (h:hasD l n d):az l n=(d,0):=by
 obtain⟨f,hf,rfl,rfl⟩:=h;obtain⟨i,hi,rfl⟩:=zJ hf;unfold az;rw[KZ hs i hi,zE hi];simp
theorem ES {d:Dsk} {r:List Fil × Int} (h:(ai d r).2=0):r.2=0∧(ai d r).1.files=r.1:=by
 unfold ai at h ⊢;split at h
 ·cases h
 ·rename_i h1;split at h
  ·rename_i h2;exact absurd h h2
  ·rename_i h2;rw[if_neg h1,if_neg h2];split at h
   ·rename_i h3;split at h
    ·cases h
    ·rename_i h4;rw[if_pos h3,if_neg h4];exact⟨by simpa using h2,rfl⟩
   ·rename_i h3;rw[if_neg h3];exact⟨by simpa using h2,rfl⟩
theorem na {d:Dsk} {r:List Fil × Int} {n x:Txt} (h:hasD d.files n x) (hr:r.2=0->hasD r.1 n x):hasD (ai d r).1.files n x:=by
 unfold ai;split
 ·exact h
 ·split
  ·exact h
  ·rename_i h2;have h3:=hr (by simpa using h2)
   split
   ·split
    ·exact h
    ·exact h3
   ·exact h3
theorem AB {l:List Fil} {n x:Txt} (k:Nat) (g:Fil) (h:hasD l n x):hasD (hJ l k g) n x:=by
 obtain⟨f,hf,h1⟩:=h;refine⟨f,?_,h1⟩;unfold hJ;rw[<- zY k l] at hf;rcases zX.1 hf with hf|hf
 ·exact List.mem_append_left _ hf
 ·exact List.mem_append_right _ (List.mem_cons_of_mem _ hf)
theorem NM (l:List Fil) (k:Nat) (g:Fil):hasD (hJ l k g) g.name g.data:=⟨g,by unfold hJ;simp,rfl,rfl⟩
theorem uX {l:List Fil} {n x:Txt} (k:Nat) (hk:k<l.length) (g:Fil) (h:hasD l n x) (hn:l[k].name≠n):hasD (l.set k g) n x:=by
 obtain⟨f,hf,h1,h2⟩:=h;obtain⟨i,hi,rfl⟩:=zJ hf;have hne:k≠i:=fun e=>by subst e;exact hn h1
 refine⟨l[i],?_,h1,h2⟩;have e:l[i]=(l.set k g)[i]'(by simpa using hi):=by rw[List.getElem_set_ne hne]
 rw[e];exact zN _
theorem IH {l:List Fil} {k:Nat} (hk:k<l.length) (g:Fil):g∈l.set k g:=by
 have hm:(l.set k g)[k]'(by simpa using hk)∈l.set k g:=zN _
 rwa [List.getElem_set_self] at hm
theorem E3 {l:List Fil} (k:Nat) (hk:k<l.length) (g:Fil):hasD (l.set k g) g.name g.data:=by
 exact⟨g,IH hk g,rfl,rfl⟩
theorem Bs {l:List Fil} {n x:Txt} (k:Nat) (hk:k<l.length) (h:hasD l n x) (hn:l[k].name≠n):hasD (fI l k) n x:=by
 obtain⟨f,hf,h1,h2⟩:=h;refine⟨f,?_,h1,h2⟩;have e:l=l.take k++([l[k]]++l.drop (k+1)):=by rw[List.singleton_append,<- zD hk,zY]
 rw[e] at hf;unfold fI;rcases zX.1 hf with hf|hf
 ·exact List.mem_append_left _ hf
 ·rcases zX.1 hf with hf|hf
  ·rw[zV.1 hf] at h1;exact absurd h1 hn
  ·exact List.mem_append_right _ hf
theorem nI {s:Dsk × Int} {f:Dsk->Dsk × Int} {n x:Txt} (h:hasD s.1.files n x) (hf:hasD (f s.1).1.files n x):hasD (tV s f).1.files n x:=by
 unfold tV;split
 ·exact hf
 ·exact h
theorem AA {s:Dsk × Int} {n x:Txt} (m:Txt) (h:hasD s.1.files n x):hasD (bR m s).1.files n x:=by
 refine nI h (na h fun h0=>?_)
 unfold bB at h0 ⊢;split at h0
 ·rename_i h1;split at h0
  ·cases h0
  ·rename_i h2;rw[if_pos h1,if_neg h2];exact AB _ _ h
 ·cases h0
theorem va {s:Dsk × Int} {n x m:Txt} (hm:m≠n) (h:hasD s.1.files n x):hasD (dH m s).1.files n x:=by
 refine nI h (na h fun h0=>?_)
 unfold bN at h0 ⊢;split at h0
 ·rename_i h1;obtain⟨hp,he⟩:=cq h1;rw[if_pos h1];exact Bs _ hp h (by rw[he];exact hm)
 ·cases h0
theorem Bz {s:Dsk × Int} {n x:Txt} (hs:srt s.1.files) (m:Txt) (h:hasD s.1.files n x):hasD (fi m s).1.files n x:=by
 refine nI h (na h fun h0=>?_)
 unfold ch at h0 ⊢;split at h0
 ·rename_i h1;obtain⟨hp,he⟩:=cq h1;rw[if_pos h1,ji hp];by_cases hm:m=n
  ·have hr:=qR hs h;unfold az at hr;rw[<- hm,zE hp] at hr;simp only[he,if_true,Prod.mk.injEq,and_true] at hr;refine(?_:∀ G:Fil,G.name=n->G.data=x->hasD (s.1.files.set (au s.1.files m) G) n x) _ (he.trans hm) hr;rintro G rfl rfl;exact E3 _ hp G
  ·exact uX _ hp _ h (by rw[he];exact hm)
 ·cases h0
theorem Ae {s:Dsk × Int} {n x m:Txt} (hm:m≠n) (t:Txt) (h:hasD s.1.files n x):hasD (fL m t s).1.files n x:=by
 refine nI h (na h fun h0=>?_)
 unfold bM at h0 ⊢;split at h0
 ·rename_i h1;split at h0
  ·cases h0
  ·rename_i h2;obtain⟨hp,he⟩:=cq h1;rw[if_pos h1,if_neg h2,ji hp];exact uX _ hp _ h (by rw[he];exact hm)
 ·cases h0
theorem HZ {s:Dsk × Int} {n x m t:Txt} (hm:m≠n) (ht:t≠n) (h:hasD s.1.files n x):hasD (wb m t s).1.files n x:=by
 refine nI h (na h fun h0=>?_)
 unfold i8 at h0 ⊢;split at h0
 ·rename_i h1;split at h0
  ·rename_i h2;obtain⟨hp,he⟩:=cq h1;rw[if_pos h1,if_pos h2];have h3:=Bs _ hp h (by rw[he];exact hm)
   unfold jm;split
   ·rename_i h4;obtain⟨hp4,he4⟩:=cq h4;exact uX _ hp4 _ h3 (by rw[he4,A2];exact ht)
   ·exact AB _ _ h3
  ·cases h0
 ·cases h0
theorem BZ {s:Dsk × Int} {n x m:Txt} (hm:m≠n) (h:hasD s.1.files n x):hasD (cV m s).1.files n x:=by
 unfold cV;split
 ·exact h
 ·split
  ·exact va (s:=(s.1,0)) hm h
  ·exact va (s:=(s.1,0)) hm h
theorem rU {k u:Nat} {s:Dsk × Int} (hd:okN k u s.1) {n x:Txt} (m:Man) (h1:[110]≠n) (h2:[109]≠n) (h:hasD s.1.files n x):hasD (bT m s).1.files n x:=by
 unfold bT;have h3:hasD (if s.2=0 then(s.1,(bc m).2) else s).1.files n x:=by split <;> exact h
 have k1:okN k u (if s.2=0 then(s.1,(bc m).2) else s).1:=by split <;> exact hd
 generalize (if s.2=0 then(s.1,(bc m).2) else s)=s1 at *
 have h4:hasD (if(az s1.1.files [110]).2=0 then dH [110] s1 else s1).1.files n x:=by
  split
  ·exact va h1 h3
  ·exact h3
 have k2:okN k u (if(az s1.1.files [110]).2=0 then dH [110] s1 else s1).1:=by
  split
  ·exact dX k1 _
  ·exact k1
 simp only[];generalize (if(az s1.1.files [110]).2=0 then dH [110] s1 else s1)=s2 at *
 have h5:=AA [110] h4;have k3:=fG k2 [110];split
 ·exact h5
 ·exact HZ h1 h2 (Bz (mb (jM k3 [110] (bc m).1) [110]).srt _ (BZ h1 (Ae h1 _ h5)))
theorem LC {d:Dsk} {n x t:Txt} (hs:srt d.files) (h:hasD d.files n x) (h0:(ai d (bM d.files d.cap n t)).2=0):hasD (ai d (bM d.files d.cap n t)).1.files n (x++t):=by
 obtain⟨h1,h2⟩:=ES h0;rw[h2];unfold bM at h1 ⊢;split at h1
 ·rename_i h3;split at h1
  ·cases h1
  ·rename_i h4;obtain⟨hp,he⟩:=cq h3;have hr:=qR hs h;unfold az at hr;rw[zE hp] at hr;simp only[he,if_true,Prod.mk.injEq,and_true] at hr;rw[if_pos h3,if_neg h4,ji hp];refine(?_:∀ G:Fil,G.name=n->G.data=x++t->hasD (d.files.set (au d.files n) G) n (x++t)) _ he (by simp[hr])
   rintro G rfl hG;rw[<- hG];exact E3 _ hp G
 ·cases h1
theorem ED {d:Dsk} {n:Txt} (h0:(bR n (d,0)).2=0):hasD (bR n (d,0)).1.files n []:=by
 unfold bR tV at h0 ⊢;rw[if_pos rfl] at h0 ⊢;obtain⟨h1,h2⟩:=ES h0;rw[h2];unfold bB at h1 ⊢;split at h1
 ·rename_i h3;split at h1
  ·cases h1
  ·rename_i h4;rw[if_pos h3,if_neg h4];exact NM _ _ ⟨n,[],0⟩
 ·cases h1
theorem EY (n j:Nat):jP n j<58:=by unfold jP;omega
theorem GW {a b:Nat} (h:fT 115 a=fT 115 b) (j:Nat) (hj:j<13):a / 10 ^ (12-j) % 10=b / 10 ^ (12-j) % 10:=by
 unfold fT at h;simp only[List.cons.injEq,true_and] at h;have h1:=List.map_inj_left.1 h j (by simpa using hj)
 have h2:=congrArg UInt8.toNat h1;have ha:=EY a (j+1);have hb:=EY b (j+1);rw[UInt8.toNat_ofNat_of_lt' (by show _<256;omega),UInt8.toNat_ofNat_of_lt' (by show _<256;omega)] at h2
 unfold jP at h2;have e:13-(j+1)=12-j:=by omega
 rw[e] at h2;omega
theorem Gf {a b:Nat} (ha:a<10 ^ 13) (hb:b<10 ^ 13) (h:fT 115 a=fT 115 b):a=b:=by
 have key:∀ k,k<=13->a / 10 ^ (13-k)=b / 10 ^ (13-k):=by
  intro k;induction k with
  | zero=>intro _;rw[Nat.div_eq_of_lt ha,Nat.div_eq_of_lt hb]
  | succ k ih =>
   intro hk;have h1:=ih (by omega)
   have h2:=GW h k (by omega)
   have e:13-k=(12-k)+1:=by omega
   have e2:13-(k+1)=12-k:=by omega
   rw[e,Nat.pow_succ,<- Nat.div_div_eq_div_mul,<- Nat.div_div_eq_div_mul] at h1;rw[e2];omega
 have:=key 13 (by omega)
 simpa using this
theorem dZ {a b:Int} (ha:0<=a∧a<=1099511627776) (hb:0<=b∧b<=1099511627776) (h:fileN a=fileN b):a=b:=by
 have:=Gf (a:=a.toNat) (b:=b.toNat) (by omega) (by omega) h
 omega
theorem nU (a:Int) (c:UInt8):[c]≠fileN a:=fun h=>by
 have:=congrArg List.length h;simp[fileN,fT] at this
abbrev SR:=Seg × List Rec
def chainM:Int->List SR->Int->Prop
 | b,[],e=>b=e
 | b,p::M,e=>p.1.base=b∧1<=p.2.length∧chainM (b+p.2.length) M e
theorem vK:∀ (M:List SR) (b:Int) (p:SR) (e:Int),chainM b (M++[p]) e↔(chainM b M p.1.base∧1<=p.2.length∧p.1.base+p.2.length=e)
 | [],b,p,e=>by
  simp only[List.nil_append,chainM];constructor
  ·rintro⟨rfl,h2,h3⟩;exact⟨rfl,h2,h3⟩
  ·rintro⟨rfl,h2,h3⟩;exact⟨rfl,h2,h3⟩
 | q::M,b,p,e=>by
  simp only[List.cons_append,chainM,vK M];constructor
  ·rintro⟨h1,h2,h3,h4,h5⟩;exact⟨⟨h1,h2,h3⟩,h4,h5⟩
  ·rintro⟨⟨h1,h2,h3⟩,h4,h5⟩;exact⟨h1,h2,h3,h4,h5⟩
theorem dY:∀ (M:List SR) (b e:Int),chainM b M e->b<=e∧∀ p∈M,b<=p.1.base∧p.1.base+p.2.length<=e∧1<=p.2.length
 | [],b,e,h=>⟨by simp only[chainM] at h;omega,fun _ h=>by cases h⟩
 | q::M,b,e,h=>by
  obtain⟨h1,h2,h3⟩:=h;obtain⟨h4,h5⟩:=dY M _ _ h3;refine⟨by omega,fun p hp=>?_⟩
  rcases List.mem_cons.1 hp with rfl|hp
  ·exact⟨by omega,by omega,h2⟩
  ·have:=h5 p hp;exact⟨by omega,this.2.1,this.2.2⟩
def aQ (M:List SR):List Rec:=M.flatMap (·.2)
theorem cH (M N:List SR):aQ (M++N)=aQ M++aQ N:=List.flatMap_append
theorem dO (p:SR):aQ [p]=p.2:=by simp[aQ]
theorem im:∀ (M:List SR) (b e:Int),chainM b M e->b+(aQ M).length=e
 | [],b,e,h=>by simpa[aQ,chainM] using h
 | q::M,b,e,h=>by
  obtain⟨h1,h2,h3⟩:=h;have:=im M _ _ h3;have e1:aQ (q::M)=q.2++aQ M:=rfl;rw[e1,zA];omega
structure fileOk (fs:List Fil) (p:SR):Prop where
 has:hasD fs (fileN p.1.base) (rowS p.2)
 why:∀ r∈p.2,whyF r=0
 num:numB p.1.base p.2
 n:p.1.n=p.2.length
 size:p.1.size=(rowS p.2).length
structure Inv (f:Int) (s:Sto) (M:List SR) (g:Seg) (l:List Rec):Prop where
 segs:s.segs=M.map (·.1)++[g]
 file:∀ p∈M++[(g,l)],fileOk s.disk.files p
 chain:chainM f M g.base
 next:s.next=g.base+l.length
 sure:0<=s.sure∧s.sure<=s.next
theorem Bo {b:Int} {l:List Rec} (h:numB b l) (k:Nat) (hk:k<l.length):l.find? (fun r=>decide (r.at_=b+k))=some l[k]:=by
 rw[List.find?_eq_some_iff_getElem];refine⟨by simpa using h k hk,k,hk,rfl,fun j hj=>?_⟩
 have:=h j (by omega)
 simp only[Bool.not_eq_true',decide_eq_false_iff_not];omega
theorem Jp {d:Dsk} {r:List Fil × Int} (h:(ai d r).2≠0):(ai d r).1.files=d.files:=by
 unfold ai at h ⊢;split
 ·rfl
 ·rename_i h1;rw[if_neg h1] at h;split
  ·rfl
  ·rename_i h2;rw[if_neg h2] at h;split
   ·rename_i h3;rw[if_pos h3] at h;split
    ·rfl
    ·rename_i h4;rw[if_neg h4] at h;exact absurd rfl h
   ·rename_i h3;rw[if_neg h3] at h;exact absurd rfl h
theorem fileOk.keep {fs fs':List Fil} {p:SR} (h:fileOk fs p) (hk:hasD fs (fileN p.1.base) (rowS p.2)->hasD fs' (fileN p.1.base) (rowS p.2)):fileOk fs' p:=⟨hk h.has,h.why,h.num,h.n,h.size⟩
theorem Inv.last {f:Int} {s:Sto} {M:List SR} {g:Seg} {l:List Rec} (h:Inv f s M g l):s.last=g:=by
 unfold Sto.last;rw[h.segs];simp
theorem Inv.disk {f:Int} {s:Sto} {M:List SR} {g:Seg} {l:List Rec} (h:Inv f s M g l) (d:Dsk) (hk:∀ p∈M++[(g,l)],hasD s.disk.files (fileN p.1.base) (rowS p.2)->hasD d.files (fileN p.1.base) (rowS p.2)):Inv f { s with disk:=d } M g l :=
 ⟨h.segs,fun p hp=>(h.file p hp).keep (hk p hp),h.chain,h.next,h.sure⟩
theorem AM {k u:Nat} {f:Int} {s:Sto} {M:List SR} {g:Seg} {l:List Rec} (ho:okS k u s) (h:Inv f s M g l) (hn:0<=s.next):Inv f (aW s).1 M g l:=by
 have h1:Inv f { s with disk:=(ai s.disk (ch s.disk.files (fileN s.last.base))).1 } M g l:=h.disk _ fun p _ hd=>Bz (s:=(s.disk,0)) ho.dsk.srt _ hd
 refine⟨h1.segs,h1.file,h1.chain,h1.next,?_⟩;unfold aW;simp only[];have:=h.sure;split <;> omega
theorem FT {k u:Nat} {s:Sto} (ho:okS k u s) (h:s.sure<=s.next):s.sure<=(aW s).1.sure:=by
 unfold aW;simp only[];split <;> omega
theorem Da {k u:Nat} {s:Sto} (ho:okS k u s) {n x:Txt} (h1:[110]≠n) (h2:[109]≠n) (h3:fileN s.next≠n) (h:hasD s.disk.files n x):hasD (eK s).1.files n x:=by
 unfold eK;simp only[];have k1:=fG (s:=(s.disk,0)) ho.dsk (fileN s.next);have h4:=AA (s:=(s.disk,0)) (fileN s.next) h;split
 ·exact BZ h3 (rU k1 _ h1 h2 h4)
 ·exact h4
theorem F6 {k u:Nat} {s:Sto} (ho:okS k u s) (h:(eK s).2=0):hasD (eK s).1.files (fileN s.next) []:=by
 unfold eK at h ⊢;simp only[] at h ⊢;have k1:=fG (s:=(s.disk,0)) ho.dsk (fileN s.next);by_cases c:(bR (fileN s.next) (s.disk,0)).2=0
 ·rw[if_pos c] at h ⊢;have h4:=rU k1 (la s).man (nU _ _) (nU _ _) (ED c);unfold cV at h ⊢;split at h
  ·rename_i h5;rw[if_pos h5];exact h4
  ·split at h
   ·cases h
   ·rename_i h6;exact absurd h h6
 ·rw[if_neg c] at h;exact absurd h c
theorem Il {k u:Nat} {f:Int} {s:Sto} {M:List SR} {g:Seg} {l:List Rec} (ho:okS k u s) (h:Inv f s M g l) (hl:l≠[]):∀ p∈M++[(g,l)],fileN s.next≠fileN p.1.base:=by
 intro p hp he;have hpm:p.1∈s.segs:=by
  rw[h.segs];rcases zX.1 hp with hp|hp
  ·exact List.mem_append_left _ (List.mem_map_of_mem hp)
  ·rw[zV.1 hp];simp
 have:=dZ ho.next (ho.seg _ hpm).1 he;have hll:0<l.length:=List.length_pos_iff.2 hl;have hnx:=h.next;rcases zX.1 hp with hp|hp
 ·have:=(dY _ _ _ h.chain).2 p hp;omega
 ·rw[zV.1 hp] at this;simp only[] at this;omega
theorem KM {k u:Nat} {f:Int} {s:Sto} {M:List SR} {g:Seg} {l:List Rec} (ho:okS k u s) (h:Inv f s M g l) (hl:l≠[]) :
  ((cC s).2≠0∧Inv f (cC s).1 M g l)∨((cC s).2=0∧Inv f (cC s).1 (M++[(g,l)]) ⟨s.next,0,0⟩ []):=by
 have h1:=AM ho h ho.next.1;have o1:=lE ho;have hn:(aW s).1.next=s.next:=rfl;unfold cC;by_cases c1:64<=s.segs.length
 ·rw[if_pos c1];exact .inl ⟨by simp,h⟩
 ·rw[if_neg c1];by_cases c2:(aW s).2=0
  ·rw[if_neg (by simp[c2])]
   generalize (aW s).1=t at *;have hk:∀ p∈M++[(g,l)],hasD t.disk.files (fileN p.1.base) (rowS p.2)->hasD (eK t).1.files (fileN p.1.base) (rowS p.2):=fun p hp hd =>
    Da o1 (nU _ _) (nU _ _) (Il o1 h1 hl p hp) hd
   by_cases c3:(eK t).2=0
   ·rw[if_pos c3];refine .inr ⟨rfl,?_,?_,?_,?_,?_⟩
    ·show t.segs++[_]=_;rw[h1.segs,hn];simp
    ·intro p hp;rcases zX.1 hp with hp|hp
     ·exact(h1.file p hp).keep (hk p hp)
     ·rw[zV.1 hp];have:=F6 o1 c3;rw[hn] at this;exact⟨this,fun r hr=>(by cases hr),fun k hk=>(by simp at hk),rfl,rfl⟩
    ·rw[vK];refine⟨h1.chain,List.length_pos_iff.2 hl,?_⟩;have:=h1.next;rw[hn] at this;simp only[];omega
    ·show t.next=s.next+_;rw[hn];simp
    ·exact h1.sure
   ·rw[if_neg c3];exact .inl ⟨c3,h1.disk _ hk⟩
  ·rw[if_pos c2];exact .inl ⟨c2,h1⟩
theorem nO (l:List Rec) (r:Rec):rowS (l++[r])=rowS l++aJ (bI r):=by
 unfold rowS;rw[List.flatMap_append];simp[uF]
theorem Lu {k u:Nat} {f:Int} {s:Sto} {M:List SR} {g:Seg} {l:List Rec} (ho:okS k u s) (h:Inv f s M g l) (r:Rec) (hr:whyF r=0) (ha:r.at_=s.next) :
  ((gc s (fj r).1).2≠0∧Inv f (gc s (fj r).1).1 M g l)∨((gc s (fj r).1).2=0∧Inv f (gc s (fj r).1).1 M ⟨g.base,g.n+1,g.size+(aJ (bI r)).length⟩ (l++[r])):=by
 have hl:=h.last;have e1:(fj r).1=aJ (bI r):=by unfold fj;rw[if_pos hr]
 have hgm:g∈s.segs:=by rw[h.segs];simp
 have hk:∀ p∈M,hasD s.disk.files (fileN p.1.base) (rowS p.2)->hasD (ai s.disk (bM s.disk.files s.disk.cap (fileN g.base) (aJ (bI r)))).1.files (fileN p.1.base) (rowS p.2):=by
  intro p hp hd;refine Ae (s:=(s.disk,0)) (fun he=>?_) _ hd
  have hpm:p.1∈s.segs:=by rw[h.segs];exact List.mem_append_left _ (List.mem_map_of_mem hp)
  have:=dZ (ho.seg _ hgm).1 (ho.seg _ hpm).1 he;have:=(dY _ _ _ h.chain).2 p hp;omega
 have hg:=h.file (g,l) (by simp)
 have hnx:=h.next;unfold gc;simp only[hl,e1];by_cases c:(ai s.disk (bM s.disk.files s.disk.cap (fileN g.base) (aJ (bI r)))).2=0
 ·rw[if_neg (by simp[c])]
  refine .inr ⟨rfl,?_,?_,h.chain,?_,?_⟩
  ·show s.segs.dropLast++[_]=_;rw[hl,h.segs];simp
  ·intro p hp;rcases zX.1 hp with hp|hp
   ·exact(h.file p (List.mem_append_left _ hp)).keep (hk p hp)
   ·rw[zV.1 hp];refine⟨?_,?_,?_,?_,?_⟩
    ·rw[nO];exact LC ho.dsk.srt hg.has c
    ·intro x hx;rcases zX.1 hx with hx|hx
     ·exact hg.why x hx
     ·rw[zV.1 hx];exact hr
    ·intro j hj;rw[zA,List.length_singleton] at hj;rcases Nat.lt_or_ge j l.length with h3|h3
     ·rw[List.getElem_append_left h3];exact hg.num j h3
     ·have:j=l.length:=by omega
      subst this;simp only[List.getElem_concat_length];omega
    ·have:=hg.n;simp only[zA,List.length_singleton] at this ⊢;omega
    ·have:=hg.size;rw[nO];simp only[zA] at this ⊢;omega
  ·show s.next+1=g.base+_;rw[zA,List.length_singleton];omega
  ·have:=h.sure;show 0<=s.sure∧s.sure<=s.next+1;omega
 ·rw[if_pos c];refine .inl ⟨c,h.disk _ fun p hp hd=>?_⟩
  rw[Jp c];exact hd
structure Pr where
 key:Int
 val:List UInt8
 deriving DecidableEq
def Pr.enc (e:Pr):List D:=[.i .u8 e.key,.s e.val]
theorem Pr.len (e:Pr):e.enc.length=2:=Eq.trans rfl rfl
theorem Pr.tk (e:Pr):e.enc.take 2=e.enc:=Eq.trans rfl rfl
theorem Pr.tkL (e:Pr):(e.enc.map L.d).take 2=e.enc.map L.d:=Eq.trans rfl rfl
theorem Pr.at0 (e:Pr):e.enc[0]?=some (.i .u8 e.key):=Eq.trans rfl rfl
theorem Pr.at1 (e:Pr):(e.enc.drop 1)[0]?=some (.s e.val):=Eq.trans rfl rfl
def Pr.ok (e:Pr):Prop:=(0<=e.key∧e.key<256)∧e.val.length<=9223372036854775807
def Pr.ty:List Ty:=[.i .u8,.s]
theorem Pr.eqs (a b:Pr):kT [0,2] (a.enc.map L.d) (b.enc.map L.d)=some (decide (a=b)):=by
 cases a;cases b;simp only[Pr.enc,List.map_cons,List.map_nil,kT,uO,if_true,Pr.mk.injEq];congr 1
 rw[Bool.eq_iff_iff];simp only[Bool.and_eq_true,beq_iff_eq,decide_eq_true_eq,and_true]
def qD (p:Pr):Bool:=decide (1<=p.val.length) && decide (p.val.length<=63)
def iO (l:List Pr) (i:Nat):Int:=match l[i]? with|some p=>p.key|none=>0
def oR (l:List Pr) (i:Nat):Bool:=match l[i]? with
 | some p=>qD p && (decide (i=0) || decide (iO l (i-1)<p.key))
 | none=>true
def dB (l:List Pr):Bool:=(List.range l.length).all (oR l)
theorem ug (l:List Pr) (i:Nat) (h:i<l.length):((List.range l.length).drop i).all (oR l)=(oR l i && ((List.range l.length).drop (i+1)).all (oR l)):=by
 rw[zD (by simpa using h),List.all_cons,List.getElem_range]
theorem wS (l:List Pr) (i:Nat) (h:l.length<=i):((List.range l.length).drop i).all (oR l)=true:=by
 rw[zC (by simpa using h)];rfl
theorem Dv (l:List Pr) (hl:l.length<=1000000):call 156 [vl (l.map Pr.enc)] []=some (vb (dB l),[]):=by
 apply ae TM rfl;refine bd ?_ Qy.eq_1;refine aq (m:=0) (σ:=Nat) (fun i=>l.length-i) (fun i=>i<=l.length∧dB l=((List.range l.length).drop i).all (oR l)) (fun i=>[vl (l.map Pr.enc),vl (l.map Pr.enc),vi l.length,vi i]) (fun _=>[])
  (fun _=>(vb (dB l),[])) ?_ 0 ⟨zP _,rfl⟩ _ _ bA
 intro i ⟨h1,h2⟩ R hR;by_cases hi:i<l.length
 ·rw[ug l i hi] at h2;have g1:(l.map Pr.enc)[i]?=some l[i].enc:=by simp[hi]
  have ha:oR l i=(qD l[i] && (decide (i=0) || decide (iO l (i-1)<l[i].key))):=by simp[oR,hi]
  rw[ha] at h2;obtain⟨p,hp⟩:∃ p,p=l[i]:=⟨_,rfl⟩;rw[<- hp] at g1 h2;by_cases c1:p.val=[]
  ·have e:dB l=false:=by rw[h2];simp[qD,c1]
   have hv:(p.val == [])=true:=by rw[c1];rfl
   rw[e];refine bd ?_ pt.eq_1 g1 @Pr.len @Pr.tkL @Pr.tk @Pr.at0 @Pr.at1 @Pr.enc.eq_1 hv;try simp[trim]
  ·have hv:(p.val == [])=false:=by simpa using c1
   have hv1:1<=p.val.length:=List.length_pos_iff.2 c1;by_cases c2:(p.val.length:Int)≥64
   ·have e:dB l=false:=by rw[h2];simp[qD];omega
    rw[e];refine bd ?_ pt.eq_1 g1 @Pr.enc.eq_1 hv (zT c2);try simp[trim]
   ·have hk:qD p=true:=by simp[qD];omega
    rw[hk,Bool.true_and] at h2;by_cases c3:i=0
    ·have hi0:¬ (0:Int)<(i:Int):=by omega
     rw[zT c3,Bool.true_or,Bool.true_and] at h2;refine bd ?_ pt.eq_1 g1 @Pr.enc.eq_1 hv (zF c2) (zF hi0);exact hR (i+1) (by omega) ⟨by omega,h2⟩ _ _ bA
    ·have hi0:(0:Int)<(i:Int):=by omega
     have hm:((i:Int)-1).toNat=i-1:=by omega
     have hm0:(0:Int)<=(i:Int)-1:=by omega
     have g2:(l.map Pr.enc)[i-1]?=some l[i-1].enc:=by rw[zG,zE (by omega)];rfl
     have hq:iO l (i-1)=l[i-1].key:=by
      have:l[i-1]?=some l[i-1]:=zE (by omega)
      simp[iO,this]
     rw[hq,zF c3,Bool.false_or] at h2;obtain⟨q,hqe⟩:∃ q,q=l[i-1]:=⟨_,rfl⟩;rw[<- hqe] at g2 h2;by_cases c4:p.key<=q.key
     ·have e:dB l=false:=by rw[h2,zF (by omega)];rfl
      rw[e];refine bd ?_ pt.eq_1 g1 g2 hm hm0 @Pr.enc.eq_1 hv (zF c2) (zT hi0) (zT c4);try simp[trim]
     ·rw[zT (p:=q.key<p.key) (by omega),Bool.true_and] at h2
      refine bd ?_ pt.eq_1 g1 g2 hm hm0 @Pr.enc.eq_1 hv (zF c2) (zT hi0) (zF c4);exact hR (i+1) (by omega) ⟨by omega,h2⟩ _ _ bA
 ·have e:dB l=true:=by rw[h2,wS l i (by omega)]
  rw[e];refine bd ?_ pt.eq_1 Qy.eq_1;try simp[trim]
theorem HH (l:List Pr) (hl:l.length<=1000000):call 68 [vl (l.map Pr.enc)] []=some (vb (dB l),[]):=by
 apply ae Xf rfl;refine bd ?_ UC.eq_1;refine aq (m:=0) (σ:=Nat) (fun i=>l.length-i) (fun i=>i<=l.length∧dB l=((List.range l.length).drop i).all (oR l)) (fun i=>[vl (l.map Pr.enc),vi i]) (fun _=>[])
  (fun _=>(vb (dB l),[])) ?_ 0 ⟨zP _,rfl⟩ _ _ bA
 intro i ⟨h1,h2⟩ R hR;by_cases hi:i<l.length
 ·rw[ug l i hi] at h2;have g1:(l.map Pr.enc)[i]?=some l[i].enc:=by simp[hi]
  have ha:oR l i=(qD l[i] && (decide (i=0) || decide (iO l (i-1)<l[i].key))):=by simp[oR,hi]
  rw[ha] at h2;obtain⟨p,hp⟩:∃ p,p=l[i]:=⟨_,rfl⟩;rw[<- hp] at g1 h2;by_cases c1:(p.val.length:Int)<1
  ·have e:dB l=false:=by rw[h2];simp[qD];omega
   rw[e];refine bd ?_ ub.eq_1 g1 @Pr.enc.eq_1 (zT c1);try simp[trim]
  ·by_cases c2:(63:Int)<p.val.length
   ·have e:dB l=false:=by rw[h2];simp[qD];omega
    rw[e];refine bd ?_ ub.eq_1 g1 @Pr.enc.eq_1 (zF c1) (zT c2);try simp[trim]
   ·have hk:qD p=true:=by simp[qD];omega
    rw[hk,Bool.true_and] at h2;by_cases c3:i=0
    ·have hi0:¬ (0:Int)<(i:Int):=by omega
     rw[zT c3,Bool.true_or,Bool.true_and] at h2;refine bd ?_ ub.eq_1 g1 @Pr.enc.eq_1 (zF c1) (zF c2) (zF hi0);exact hR (i+1) (by omega) ⟨by omega,h2⟩ _ _ bA
    ·have hi0:(0:Int)<(i:Int):=by omega
     have hm:((i:Int)-1).toNat=i-1:=by omega
     have hm0:(0:Int)<=(i:Int)-1:=by omega
     have g2:(l.map Pr.enc)[i-1]?=some l[i-1].enc:=by rw[zG,zE (by omega)];rfl
     have hq:iO l (i-1)=l[i-1].key:=by
      have:l[i-1]?=some l[i-1]:=zE (by omega)
      simp[iO,this]
     rw[hq,zF c3,Bool.false_or] at h2;obtain⟨q,hqe⟩:∃ q,q=l[i-1]:=⟨_,rfl⟩;rw[<- hqe] at g2 h2;by_cases c4:p.key<=q.key
     ·have e:dB l=false:=by rw[h2,zF (by omega)];rfl
      rw[e];refine bd ?_ ub.eq_1 g1 g2 hm hm0 @Pr.enc.eq_1 (zF c1) (zF c2) (zT hi0) (zT c4);try simp[trim]
     ·rw[zT (p:=q.key<p.key) (by omega),Bool.true_and] at h2
      refine bd ?_ ub.eq_1 g1 g2 hm hm0 @Pr.enc.eq_1 (zF c1) (zF c2) (zT hi0) (zF c4);exact hR (i+1) (by omega) ⟨by omega,h2⟩ _ _ bA
 ·have e:dB l=true:=by rw[h2,wS l i (by omega)]
  rw[e];refine bd ?_ ub.eq_1 UC.eq_1;try simp[trim]
def lT (s:List UInt8) (a:Nat):Option (Pr × Nat):=match kA (s.drop (a+1)) 0 0 with
 | some (n,k)=>if s.length<a+1+k+n then none else some (⟨((s[a]?.getD 0).toNat:Int),(s.take (a+1+k+n)).drop (a+1+k)⟩,a+1+k+n)
 | none=>none
def eg (s:List UInt8):Nat->Nat->List Pr->Option (List Pr × Nat)
 | 0,a,out=>some (out,a)
 | n+1,a,out=>match lT s a with
  | some (p,b)=>eg s n b (out++[p])
  | none=>none
def iR (s:List UInt8):Option (List Pr × Nat)->Option (List Pr)
 | some (out,a)=>if a=s.length∧dB out=true then some out else none
 | none=>none
def aU (s:List UInt8):Option (List Pr):=match kA s 0 0 with
 | some (n,k)=>if 256<n then none else iR s (eg s n k [])
 | none=>none
def dp:Option (List Pr)->V
 | some l=>.tup [(false,[.d (.l (l.map Pr.enc))]),(false,[.d (.b true)])]
 | none=>.tup [(false,[.d (.l [])]),(false,[.d (.b false)])]
theorem vy (s:List UInt8) (hs:s.length<=1000000000):call 121 [vs s] []=some (dp (aU s),[]):=by
 apply ae UE rfl;have h0:=oe s 0 (by decide) (by omega)
 rw[List.drop_zero] at h0;have z0:((0:Nat):Int)=0:=rfl;rw[z0] at h0;cases hn:kA s 0 0 with
 | none =>
  have e:aU s=none:=by simp only[aU,hn]
  rw[hn] at h0;rw[e];(simp(disch:=first|decide|omega|(intros;exact aP rfl rfl)|simp only[am]) only[CM,h0,jD,dp,go_sem,seval,aO])
  try simp[trim]
 | some q =>
  obtain⟨n,k⟩:=q;have hk:=(fA hn).2.1;rw[hn] at h0;by_cases c1:(256:Int)<(n:Int)
  ·have e:aU s=none:=by simp only[aU,hn];rw[if_pos (by omega)]
   rw[e];(simp(disch:=first|decide|omega|(intros;exact aP rfl rfl)|simp only[am]) only[CM,h0,jD,dp,zT c1,go_sem,seval,aO])
   try simp[trim]
  ·have e:aU s=iR s (eg s n k []):=by simp only[aU,hn];rw[if_neg (by omega)]
   rw[e];have ek:(((0+k:Nat)):Int)=(k:Int):=by rw[Nat.zero_add]
   (simp(disch:=first|decide|omega|(intros;exact aP rfl rfl)|simp only[am]) only[CM,h0,jD,zF c1,ek,go_sem,seval,aO])
   refine aq (m:=0) (σ:=Nat × Nat × List Pr) (fun t=>n-t.1) (fun t=>t.1<=n∧t.2.1<=s.length∧t.2.2.length=t.1∧eg s n k []=eg s (n-t.1) t.2.1 t.2.2) (fun t=>[vs s,vi t.2.1,V.one (.sl 0 2 0 t.2.2.length),vi n,vi t.1]) (fun t=>[.arr 2 (t.2.2.map Pr.enc) 0])
    (fun _=>(dp (iR s (eg s n k [])),[])) ?_ (0,k,[]) ⟨zP _,hk,rfl,rfl⟩ _ _ bA
   rintro⟨i,a,out⟩ ⟨h1,h2,h3,h4⟩ R hR;simp only at h1 h2 h3 h4;by_cases hi:i<n
   ·obtain⟨m,hm⟩:∃ m,n-i=m+1:=⟨n-i-1,by omega⟩
    rw[hm,eg] at h4;have hr:=oe s (a+1) (by omega) (by omega)
    rw[Int.natCast_add,Int.natCast_one] at hr;cases hp:kA (s.drop (a+1)) 0 0 with
    | none =>
     have e1:eg s n k []=none:=by rw[h4];simp only[lT,hp]
     rw[hp] at hr;rw[e1];(simp(disch:=first|decide|omega|(intros;exact aP rfl rfl)|simp only[am]) only[oO,hr,jD,dp,iR,go_sem,seval,aO])
     try simp[trim]
    | some q =>
     obtain⟨w,j⟩:=q;have hj:=fA hp;have hjl:a+1+j<=s.length:=by have:=hj.2.1;rw[zH] at this;omega
     rw[hp] at hr;by_cases c2:(s.length:Int)-((a+1+j:Nat):Int)<(w:Int)
     ·have e1:eg s n k []=none:=by rw[h4];simp only[lT,hp];rw[if_pos (by omega)]
      rw[e1];(simp(disch:=first|decide|omega|(intros;exact aP rfl rfl)|simp only[am]) only[oO,hr,jD,dp,iR,zT c2,go_sem,seval,aO])
      try simp[trim]
     ·have ha:a<s.length:=by omega
      have hc:s[a]?=some s[a]:=zE ha;have e1:lT s a=some (⟨(s[a].toNat:Int),(s.take (a+1+j+w)).drop (a+1+j)⟩,a+1+j+w):=by
       simp only[lT,hp];rw[if_neg (by omega),hc];rfl
      rw[e1] at h4;simp only at h4;have ew:(((a+1+j:Nat)):Int)+(w:Int)=((a+1+j+w:Nat):Int):=by omega
      have hw:(((a+1+j+w:Nat)):Int).toNat=a+1+j+w:=by omega
      (simp(disch:=first|decide|omega|(intros;exact aP rfl rfl)|simp only[am]) only[oO,hr,jD,zF c2,hc,ew,go_sem,seval,aO])
      have hR':=hR ((i+1,a+1+j+w,out++[⟨(s[a].toNat:Int),(s.take (a+1+j+w)).drop (a+1+j)⟩])) (by first|omega|(simp only[];omega)) ⟨by omega,by simp only[];omega,by simp[h3],by rw[h4];congr 1;omega⟩;simp only[Pr.enc,zA,List.length_cons,List.length_nil,Nat.zero_add,List.map_append,List.map_cons,List.map_nil] at hR';exact hR' _ _ bA
   ·have hin:i=n:=by omega
    subst hin;rw[Nat.sub_self,eg] at h4;rw[h4];have hr:=Dv out (by omega)
    have ht:List.take out.length (out.map Pr.enc)=out.map Pr.enc:=zL (by simp)
    by_cases c3:(a:Int)<(s.length:Int)
    ·have e1:iR s (some (out,a))=none:=by simp only[iR];rw[if_neg (by omega)]
     rw[e1];(simp(disch:=first|decide|omega|(intros;exact aP rfl rfl)|simp only[am]) only[oO,CM,zT c3,dp,go_sem,seval,aO])
     try simp[trim]
    ·cases hq:dB out with
     | false =>
      have e1:iR s (some (out,a))=none:=by simp only[iR,hq];rw[if_neg (by simp)]
      rw[e1];rw[hq] at hr;(simp(disch:=first|decide|omega|(intros;exact aP rfl rfl)|simp only[am]) only[oO,CM,zF c3,hr,ht,dp,go_sem,seval,aO])
      try simp[trim]
     | true =>
      have e1:iR s (some (out,a))=some out:=by simp only[iR,hq];rw[if_pos ⟨by omega,trivial⟩]
      rw[e1];rw[hq] at hr;(simp(disch:=first|decide|omega|(intros;exact aP rfl rfl)|simp only[am]) only[oO,CM,zF c3,hr,ht,dp,go_sem,seval,aO])
      try simp[trim]
theorem FV (s:List UInt8) (hs:s.length<=1000000000):call 42 [vs s] []=some (dp (aU s),[]):=by
 apply ae V5 rfl;have h0:=fM s 0 (by decide) (by omega)
 rw[List.drop_zero] at h0;have z0:((0:Nat):Int)=0:=rfl;rw[z0] at h0;cases hn:kA s 0 0 with
 | none =>
  have e:aU s=none:=by simp only[aU,hn]
  rw[hn] at h0;rw[e];(simp(disch:=first|decide|omega|(intros;exact aP rfl rfl)|simp only[am]) only[PT,h0,jD,dp,go_sem,seval,aO])
  try simp[trim]
 | some q =>
  obtain⟨n,k⟩:=q;have hk:=(fA hn).2.1;rw[hn] at h0;by_cases c1:(256:Int)<(n:Int)
  ·have e:aU s=none:=by simp only[aU,hn];rw[if_pos (by omega)]
   rw[e];(simp(disch:=first|decide|omega|(intros;exact aP rfl rfl)|simp only[am]) only[PT,h0,jD,dp,zT c1,go_sem,seval,aO])
   try simp[trim]
  ·have e:aU s=iR s (eg s n k []):=by simp only[aU,hn];rw[if_neg (by omega)]
   rw[e];have ek:(((0+k:Nat)):Int)=(k:Int):=by rw[Nat.zero_add]
   (simp(disch:=first|decide|omega|(intros;exact aP rfl rfl)|simp only[am]) only[PT,h0,jD,zF c1,ek,go_sem,seval,aO])
   refine aq (m:=0) (σ:=Nat × Nat × List Pr) (fun t=>n-t.1) (fun t=>t.1<=n∧t.2.1<=s.length∧t.2.2.length=t.1∧eg s n k []=eg s (n-t.1) t.2.1 t.2.2) (fun t=>[vs s,vi n,vi t.2.1,V.one (.sl 0 2 0 t.2.2.length),vi t.1]) (fun t=>[.arr 2 (t.2.2.map Pr.enc) 0])
    (fun _=>(dp (iR s (eg s n k [])),[])) ?_ (0,k,[]) ⟨zP _,hk,rfl,rfl⟩ _ _ bA
   rintro⟨i,a,out⟩ ⟨h1,h2,h3,h4⟩ R hR;simp only at h1 h2 h3 h4;by_cases hi:i<n
   ·by_cases ca:(s.length:Int)<=(a:Int)
    ·have e0:kA (s.drop (a+1)) 0 0=none:=by rw[zC (by omega)];rfl
     obtain⟨m,hm⟩:∃ m,n-i=m+1:=⟨n-i-1,by omega⟩
     have e1:eg s n k []=none:=by rw[h4,hm,eg];simp only[lT,e0]
     rw[e1];(simp(disch:=first|decide|omega|(intros;exact aP rfl rfl)|simp only[am]) only[sF,zT ca,dp,iR,go_sem,seval,aO])
     try simp[trim]
    obtain⟨m,hm⟩:∃ m,n-i=m+1:=⟨n-i-1,by omega⟩
    rw[hm,eg] at h4;have hr:=fM s (a+1) (by omega) (by omega)
    rw[Int.natCast_add,Int.natCast_one] at hr;cases hp:kA (s.drop (a+1)) 0 0 with
    | none =>
     have e1:eg s n k []=none:=by rw[h4];simp only[lT,hp]
     rw[hp] at hr;rw[e1];(simp(disch:=first|decide|omega|(intros;exact aP rfl rfl)|simp only[am]) only[sF,zF ca,hr,jD,dp,iR,go_sem,seval,aO])
     try simp[trim]
    | some q =>
     obtain⟨w,j⟩:=q;have hj:=fA hp;have hjl:a+1+j<=s.length:=by have:=hj.2.1;rw[zH] at this;omega
     rw[hp] at hr;by_cases c2:(s.length:Int)-((a+1+j:Nat):Int)<(w:Int)
     ·have e1:eg s n k []=none:=by rw[h4];simp only[lT,hp];rw[if_pos (by omega)]
      rw[e1];(simp(disch:=first|decide|omega|(intros;exact aP rfl rfl)|simp only[am]) only[sF,zF ca,hr,jD,dp,iR,zT c2,go_sem,seval,aO])
      try simp[trim]
     ·have ha:a<s.length:=by omega
      have hc:s[a]?=some s[a]:=zE ha;have e1:lT s a=some (⟨(s[a].toNat:Int),(s.take (a+1+j+w)).drop (a+1+j)⟩,a+1+j+w):=by
       simp only[lT,hp];rw[if_neg (by omega),hc];rfl
      rw[e1] at h4;simp only at h4;have ew:(((a+1+j:Nat)):Int)+(w:Int)=((a+1+j+w:Nat):Int):=by omega
      have hw:(((a+1+j+w:Nat)):Int).toNat=a+1+j+w:=by omega
      (simp(disch:=first|decide|omega|(intros;exact aP rfl rfl)|simp only[am]) only[sF,zF ca,hr,jD,zF c2,hc,ew,go_sem,seval,aO])
      have hR':=hR ((i+1,a+1+j+w,out++[⟨(s[a].toNat:Int),(s.take (a+1+j+w)).drop (a+1+j)⟩])) (by first|omega|(simp only[];omega)) ⟨by omega,by simp only[];omega,by simp[h3],by rw[h4];congr 1;omega⟩;simp only[Pr.enc,zA,List.length_cons,List.length_nil,Nat.zero_add,List.map_append,List.map_cons,List.map_nil] at hR';exact hR' _ _ bA
   ·have hin:i=n:=by omega
    subst hin;rw[Nat.sub_self,eg] at h4;rw[h4];have hr:=HH out (by omega)
    have ht:List.take out.length (out.map Pr.enc)=out.map Pr.enc:=zL (by simp)
    by_cases c3:(a:Int)≠(s.length:Int)
    ·have e1:iR s (some (out,a))=none:=by simp only[iR];rw[if_neg (by omega)]
     rw[e1];(simp(disch:=first|decide|omega|(intros;exact aP rfl rfl)|simp only[am]) only[sF,PT,bne_iff_ne.2 c3,dp,go_sem,seval,aO])
     try simp[trim]
    ·have c3':((a:Int) != (s.length:Int))=false:=by simpa using c3
     cases hq:dB out with
     | false =>
      have e1:iR s (some (out,a))=none:=by simp only[iR,hq];rw[if_neg (by simp)]
      rw[e1];rw[hq] at hr;(simp(disch:=first|decide|omega|(intros;exact aP rfl rfl)|simp only[am]) only[sF,PT,c3',hr,ht,dp,go_sem,seval,aO])
      try simp[trim]
     | true =>
      have e1:iR s (some (out,a))=some out:=by simp only[iR,hq];rw[if_pos ⟨by omega,trivial⟩]
      rw[e1];rw[hq] at hr;(simp(disch:=first|decide|omega|(intros;exact aP rfl rfl)|simp only[am]) only[sF,PT,c3',hr,ht,dp,go_sem,seval,aO])
      try simp[trim]
def cT (l:List Pr):List UInt8->List Pr
 | []=>l
 | c::r=>l.takeWhile (fun p=>decide (p.key<(c.toNat:Int)))++(if r=[] then[] else[⟨(c.toNat:Int),r⟩])++l.filter (fun p=>decide ((c.toNat:Int)<p.key))
theorem NZ (P:Pr->Bool) (l:List Pr) (i:Nat) (h:i<l.length):(l.drop i).takeWhile P=if P l[i]=true then l[i]::(l.drop (i+1)).takeWhile P else[]:=by
 rw[zD h,List.takeWhile_cons]
theorem HR (l:List Pr) (i:Nat) (h:i<l.length):(l.take i).map Pr.enc++[l[i].enc]=(l.take (i+1)).map Pr.enc:=by
 rw[zO h,List.map_append];rfl
theorem pK (Q:Pr->Bool) (l:List Pr) (i:Nat) (h:i<l.length):(l.take (i+1)).filter Q=(l.take i).filter Q++(if Q l[i]=true then[l[i]] else[]):=by
 rw[zO h,List.filter_append];congr 1
 by_cases hq:Q l[i]=true <;> simp[hq]
theorem qK (Q:Pr->Bool) (l:List Pr) (i:Nat):((l.take i).filter Q).length<=l.length :=
 Nat.le_trans (List.length_filter_le _ _) (by simp;omega)
theorem step_ref (l:List Pr) (hl:l.length<=1000000) (d:List UInt8) (hd:d.length<=1000000):call 44 [vl (l.map Pr.enc),vs d] []=some (vl ((cT l d).map Pr.enc),[]):=by
 apply ae V8 rfl;have hok:aV 2 (l.map Pr.enc)=true:=aZ Pr.len _;cases d with
 | nil =>
  have e0:(([]:List UInt8) == [])=true:=rfl;have ht:List.take l.length (l.map Pr.enc)=l.map Pr.enc:=zL (by simp)
  refine bd ?_ K3.eq_1 e0 hok ht;try simp[trim,cT]
 | cons c r =>
  have e0:((c::r) == ([]:List UInt8))=false:=rfl;obtain⟨Z,hZ⟩:∃ Z:V × Hp,Z=(vl ((cT l (c::r)).map Pr.enc),[]):=⟨_,rfl⟩;rw[<- hZ];have hc0:(c::r)[0]?=some c:=rfl;have hlr:(c::r).length<=1000000:=hd;obtain⟨dt,hD⟩:∃ dt,dt=c::r:=⟨_,rfl⟩;rw[<- hD] at hc0 e0 hlr hZ ⊢;refine bd ?_ K3.eq_1 e0;refine aq (m:=0) (σ:=Nat) (fun i=>l.length-i) (fun i=>i<=l.length∧l.takeWhile (fun p=>decide (p.key<(c.toNat:Int)))=l.take i++(l.drop i).takeWhile (fun p=>decide (p.key<(c.toNat:Int)))) (fun i=>[vl (l.map Pr.enc),vs dt,V.one (.sl 0 2 0 (l.take i).length),vi i]) (fun i=>[.arr 2 ((l.take i).map Pr.enc) 0])
   (fun _=>Z) ?_ 0 ⟨zP _,by simp⟩ _ _ bA
  intro i ⟨h1,h2⟩ R hR;have key:l.takeWhile (fun p=>decide (p.key<(c.toNat:Int)))=l.take i->Z=(vl ((l.take i++(if r=[] then[] else[(⟨(c.toNat:Int),r⟩:Pr)])++l.filter (fun(p:Pr)=>decide ((c.toNat:Int)<p.key))).map Pr.enc),[]):=by
   intro he;rw[hZ,hD,cT,he]
  have two:∀ (i:Nat) (h:i<l.length),(l.map Pr.enc)[i]?=some l[i].enc:=fun i h=>by rw[zG,zE h];rfl
  have hlen:(l.take i).length=i:=by simp;omega
  have go:(i<l.length->iO l i<(c.toNat:Int))∨(i<l.length->¬ iO l i<(c.toNat:Int)):=by
   by_cases h:iO l i<(c.toNat:Int)
   ·exact .inl fun _=>h
   ·exact .inr fun _=>h
  have kat:∀ (i:Nat) (h:i<l.length),iO l i=l[i].key:=fun i h=>by
   have:l[i]?=some l[i]:=zE h;simp[iO,this]
  by_cases hi:i<l.length∧iO l i<(c.toNat:Int)
  ·obtain⟨hi,c1⟩:=hi;have g1:=two i hi;rw[kat i hi] at c1;rw[NZ _ l i hi,if_pos (zT c1)] at h2;have ho:=HR l i hi;have hl1:(l.take i).length+1=(l.take (i+1)).length:=by simp;omega
   have h3:l.takeWhile (fun p=>decide (p.key<(c.toNat:Int)))=l.take (i+1)++(l.drop (i+1)).takeWhile (fun p=>decide (p.key<(c.toNat:Int))):=by rw[h2,zO hi,List.append_assoc];rfl
   obtain⟨p,hp⟩:∃ p,p=l[i]:=⟨_,rfl⟩;rw[<- hp] at g1 c1 ho;have hb:(l.take i).length<=1000000:=by omega
   obtain⟨B,hB⟩:∃ B,B=l.take i:=⟨_,rfl⟩;rw[<- hB] at ho hl1 hb ⊢;refine bd ?_ wH.eq_1 g1 @Pr.len @Pr.tk @Pr.tkL @Pr.at0 hc0 (zT c1) ho hl1;exact hR (i+1) (by omega) ⟨by omega,h3⟩ _ _ bA
  ·have he:l.takeWhile (fun p=>decide (p.key<(c.toNat:Int)))=l.take i:=by
    rw[h2];by_cases hj:i<l.length
    ·rw[NZ _ l i hj,if_neg ?_,List.append_nil];intro hc;exact hi ⟨hj,by rw[kat i hj];simpa using hc⟩
    ·rw[zC (by omega)];simp
   have hz:=key he;have hb:(l.take i).length<=1000000:=by omega
   clear key he h2 hR hlen;obtain⟨B,hB⟩:∃ B,B=l.take i:=⟨_,rfl⟩;rw[<- hB] at hz hb ⊢;clear hB;obtain⟨B',hB',hm,hl2⟩:∃ B':List Pr,B'=B++[⟨(c.toNat:Int),r⟩]∧B.map Pr.enc++[[.i .u8 (c.toNat:Int),.s r]]=B'.map Pr.enc∧B.length+1=B'.length:=⟨_,rfl,by simp[Pr.enc],by simp⟩
   have hdr:List.drop 1 dt=r:=by rw[hD];rfl
   have hdt:List.take dt.length dt=dt:=List.take_length;by_cases hr:r=[]
   ·have hdl:¬ (1:Int)<(dt.length:Int):=by rw[hD,hr];simp
    rw[if_pos hr,List.append_nil] at hz;clear hm hl2 hB' B';by_cases hj:i<l.length
    ·have g1:=two i hj;have c1:¬ l[i].key<(c.toNat:Int):=fun h=>hi ⟨hj,by rw[kat i hj];exact h⟩
     obtain⟨p,hp⟩:∃ p,p=l[i]:=⟨_,rfl⟩;rw[<- hp] at g1 c1;refine bd ?_ wH.eq_1 K3.eq_1 g1 @Pr.len @Pr.tk @Pr.tkL @Pr.at0 hc0 (zF c1) (zF hdl);refine aq (m:=0) (σ:=Nat) (fun j=>l.length-j) (fun j=>j<=l.length) (fun j=>[vl (l.map Pr.enc),vs dt,V.one (.sl 0 2 0 (B++(l.take j).filter (fun(p:Pr)=>decide ((c.toNat:Int)<p.key))).length),vi j]) (fun j=>[.arr 2 ((B++(l.take j).filter (fun(p:Pr)=>decide ((c.toNat:Int)<p.key))).map Pr.enc) 0])
      (fun _=>Z) ?_ 0 (zP _) _ _ (at_head2 (by decide) (by simp only[List.map_cons,List.map_nil,go_sem,seval];exact rfl) (by simp[aI,aD,ax,aE,aw,V.ren,L.ren,Box.ren,V.refs,L.refs,Box.refs,List.append_nil]) (by simp[aI,aD,ax,aE,aw,V.ren,L.ren,Box.ren,V.refs,L.refs,Box.refs,List.append_nil]))
     intro j h1 R hR;by_cases hi:j<l.length
     ·have g1:=two j hi;have hf:=pK (fun(p:Pr)=>decide ((c.toNat:Int)<p.key)) l j hi
      have hfl:=qK (fun(p:Pr)=>decide ((c.toNat:Int)<p.key)) l j
      obtain⟨p,hp⟩:∃ p,p=l[j]:=⟨_,rfl⟩;rw[<- hp] at g1 hf;by_cases c2:(c.toNat:Int)<p.key
      ·rw[if_pos (zT c2)] at hf;have hR':=hR (j+1) (by omega) (by omega)
       rw[hf] at hR';obtain⟨C,hC⟩:∃ C,C=B++(l.take j).filter (fun(p:Pr)=>decide ((c.toNat:Int)<p.key)):=⟨_,rfl⟩
       have hcl:C.length<=2000001:=by rw[hC,zA];omega
       rw[<- List.append_assoc,<- hC] at hR';rw[<- hC];obtain⟨C',hC',hm1,hm2⟩:∃ C':List Pr,C++[p]=C'∧C.map Pr.enc++[p.enc]=C'.map Pr.enc∧C.length+1=C'.length:=⟨_,rfl,by simp,by simp⟩
       rw[hC'] at hR';refine bd ?_ kE.eq_1 g1 @Pr.len @Pr.tk @Pr.tkL @Pr.at0 hc0 (zT c2) hm1 hm2;exact hR' _ _ bA
      ·rw[if_neg (by simpa using c2),List.append_nil] at hf
       have hR':=hR (j+1) (by omega) (by omega)
       rw[hf] at hR';generalize B++(l.take j).filter (fun(p:Pr)=>decide ((c.toNat:Int)<p.key))=C at hR' ⊢
       refine bd ?_ kE.eq_1 g1 @Pr.len @Pr.tk @Pr.tkL @Pr.at0 hc0 (zF c2);exact hR' _ _ bA
     ·have hj2:l.take j=l:=zL (by omega)
      rw[hj2];obtain⟨C,hC⟩:∃ C,C=B++l.filter (fun(p:Pr)=>decide ((c.toNat:Int)<p.key)):=⟨_,rfl⟩
      rw[<- hC] at hz ⊢;rw[hz];have ht:List.take C.length (C.map Pr.enc)=C.map Pr.enc:=zL (by simp)
      refine bd ?_ kE.eq_1 K3.eq_1 ht;try simp[trim]
    ·refine bd ?_ wH.eq_1 K3.eq_1 (zF hdl);refine aq (m:=0) (σ:=Nat) (fun j=>l.length-j) (fun j=>j<=l.length) (fun j=>[vl (l.map Pr.enc),vs dt,V.one (.sl 0 2 0 (B++(l.take j).filter (fun(p:Pr)=>decide ((c.toNat:Int)<p.key))).length),vi j]) (fun j=>[.arr 2 ((B++(l.take j).filter (fun(p:Pr)=>decide ((c.toNat:Int)<p.key))).map Pr.enc) 0])
      (fun _=>Z) ?_ 0 (zP _) _ _ (at_head2 (by decide) (by simp only[List.map_cons,List.map_nil,go_sem,seval];exact rfl) (by simp[aI,aD,ax,aE,aw,V.ren,L.ren,Box.ren,V.refs,L.refs,Box.refs,List.append_nil]) (by simp[aI,aD,ax,aE,aw,V.ren,L.ren,Box.ren,V.refs,L.refs,Box.refs,List.append_nil]))
     intro j h1 R hR;by_cases hi:j<l.length
     ·have g1:=two j hi;have hf:=pK (fun(p:Pr)=>decide ((c.toNat:Int)<p.key)) l j hi
      have hfl:=qK (fun(p:Pr)=>decide ((c.toNat:Int)<p.key)) l j
      obtain⟨p,hp⟩:∃ p,p=l[j]:=⟨_,rfl⟩;rw[<- hp] at g1 hf;by_cases c2:(c.toNat:Int)<p.key
      ·rw[if_pos (zT c2)] at hf;have hR':=hR (j+1) (by omega) (by omega)
       rw[hf] at hR';obtain⟨C,hC⟩:∃ C,C=B++(l.take j).filter (fun(p:Pr)=>decide ((c.toNat:Int)<p.key)):=⟨_,rfl⟩
       have hcl:C.length<=2000001:=by rw[hC,zA];omega
       rw[<- List.append_assoc,<- hC] at hR';rw[<- hC];obtain⟨C',hC',hm1,hm2⟩:∃ C':List Pr,C++[p]=C'∧C.map Pr.enc++[p.enc]=C'.map Pr.enc∧C.length+1=C'.length:=⟨_,rfl,by simp,by simp⟩
       rw[hC'] at hR';refine bd ?_ kE.eq_1 g1 @Pr.len @Pr.tk @Pr.tkL @Pr.at0 hc0 (zT c2) hm1 hm2;exact hR' _ _ bA
      ·rw[if_neg (by simpa using c2),List.append_nil] at hf
       have hR':=hR (j+1) (by omega) (by omega)
       rw[hf] at hR';generalize B++(l.take j).filter (fun(p:Pr)=>decide ((c.toNat:Int)<p.key))=C at hR' ⊢
       refine bd ?_ kE.eq_1 g1 @Pr.len @Pr.tk @Pr.tkL @Pr.at0 hc0 (zF c2);exact hR' _ _ bA
     ·have hj2:l.take j=l:=zL (by omega)
      rw[hj2];obtain⟨C,hC⟩:∃ C,C=B++l.filter (fun(p:Pr)=>decide ((c.toNat:Int)<p.key)):=⟨_,rfl⟩
      rw[<- hC] at hz ⊢;rw[hz];have ht:List.take C.length (C.map Pr.enc)=C.map Pr.enc:=zL (by simp)
      refine bd ?_ kE.eq_1 K3.eq_1 ht;try simp[trim]
   ·have hdl:(1:Int)<(dt.length:Int):=by
     rw[hD];have:=List.length_pos_iff.2 hr;simp;omega
    rw[if_neg hr,<- hB'] at hz;have hb:B'.length<=1000001:=by omega
    by_cases hj:i<l.length
    ·have g1:=two i hj;have c1:¬ l[i].key<(c.toNat:Int):=fun h=>hi ⟨hj,by rw[kat i hj];exact h⟩
     obtain⟨p,hp⟩:∃ p,p=l[i]:=⟨_,rfl⟩;rw[<- hp] at g1 c1;refine bd ?_ wH.eq_1 K3.eq_1 g1 @Pr.len @Pr.tk @Pr.tkL @Pr.at0 hc0 hdt hdr (zF c1) (And.intro (zT hdl) (And.intro hm hl2));refine aq (m:=0) (σ:=Nat) (fun j=>l.length-j) (fun j=>j<=l.length) (fun j=>[vl (l.map Pr.enc),vs dt,V.one (.sl 0 2 0 (B'++(l.take j).filter (fun(p:Pr)=>decide ((c.toNat:Int)<p.key))).length),vi j]) (fun j=>[.arr 2 ((B'++(l.take j).filter (fun(p:Pr)=>decide ((c.toNat:Int)<p.key))).map Pr.enc) 0])
      (fun _=>Z) ?_ 0 (zP _) _ _ (at_head2 (by decide) (by simp only[List.map_cons,List.map_nil,go_sem,seval];exact rfl) (by simp[aI,aD,ax,aE,aw,V.ren,L.ren,Box.ren,V.refs,L.refs,Box.refs,List.append_nil]) (by simp[aI,aD,ax,aE,aw,V.ren,L.ren,Box.ren,V.refs,L.refs,Box.refs,List.append_nil]))
     intro j h1 R hR;by_cases hi:j<l.length
     ·have g1:=two j hi;have hf:=pK (fun(p:Pr)=>decide ((c.toNat:Int)<p.key)) l j hi
      have hfl:=qK (fun(p:Pr)=>decide ((c.toNat:Int)<p.key)) l j
      obtain⟨p,hp⟩:∃ p,p=l[j]:=⟨_,rfl⟩;rw[<- hp] at g1 hf;by_cases c2:(c.toNat:Int)<p.key
      ·rw[if_pos (zT c2)] at hf;have hR':=hR (j+1) (by omega) (by omega)
       rw[hf] at hR';obtain⟨C,hC⟩:∃ C,C=B'++(l.take j).filter (fun(p:Pr)=>decide ((c.toNat:Int)<p.key)):=⟨_,rfl⟩
       have hcl:C.length<=2000001:=by rw[hC,zA];omega
       rw[<- List.append_assoc,<- hC] at hR';rw[<- hC];obtain⟨C',hC',hm1,hm2⟩:∃ C':List Pr,C++[p]=C'∧C.map Pr.enc++[p.enc]=C'.map Pr.enc∧C.length+1=C'.length:=⟨_,rfl,by simp,by simp⟩
       rw[hC'] at hR';refine bd ?_ kE.eq_1 g1 @Pr.len @Pr.tk @Pr.tkL @Pr.at0 hc0 (zT c2) hm1 hm2;exact hR' _ _ bA
      ·rw[if_neg (by simpa using c2),List.append_nil] at hf
       have hR':=hR (j+1) (by omega) (by omega)
       rw[hf] at hR';generalize B'++(l.take j).filter (fun(p:Pr)=>decide ((c.toNat:Int)<p.key))=C at hR' ⊢
       refine bd ?_ kE.eq_1 g1 @Pr.len @Pr.tk @Pr.tkL @Pr.at0 hc0 (zF c2);exact hR' _ _ bA
     ·have hj2:l.take j=l:=zL (by omega)
      rw[hj2];obtain⟨C,hC⟩:∃ C,C=B'++l.filter (fun(p:Pr)=>decide ((c.toNat:Int)<p.key)):=⟨_,rfl⟩
      rw[<- hC] at hz ⊢;rw[hz];have ht:List.take C.length (C.map Pr.enc)=C.map Pr.enc:=zL (by simp)
      refine bd ?_ kE.eq_1 K3.eq_1 ht;try simp[trim]
    ·refine bd ?_ wH.eq_1 K3.eq_1 hc0 hdt hdr (zT hdl) hm hl2;refine aq (m:=0) (σ:=Nat) (fun j=>l.length-j) (fun j=>j<=l.length) (fun j=>[vl (l.map Pr.enc),vs dt,V.one (.sl 0 2 0 (B'++(l.take j).filter (fun(p:Pr)=>decide ((c.toNat:Int)<p.key))).length),vi j]) (fun j=>[.arr 2 ((B'++(l.take j).filter (fun(p:Pr)=>decide ((c.toNat:Int)<p.key))).map Pr.enc) 0])
      (fun _=>Z) ?_ 0 (zP _) _ _ (at_head2 (by decide) (by simp only[List.map_cons,List.map_nil,go_sem,seval];exact rfl) (by simp[aI,aD,ax,aE,aw,V.ren,L.ren,Box.ren,V.refs,L.refs,Box.refs,List.append_nil]) (by simp[aI,aD,ax,aE,aw,V.ren,L.ren,Box.ren,V.refs,L.refs,Box.refs,List.append_nil]))
     intro j h1 R hR;by_cases hi:j<l.length
     ·have g1:=two j hi;have hf:=pK (fun(p:Pr)=>decide ((c.toNat:Int)<p.key)) l j hi
      have hfl:=qK (fun(p:Pr)=>decide ((c.toNat:Int)<p.key)) l j
      obtain⟨p,hp⟩:∃ p,p=l[j]:=⟨_,rfl⟩;rw[<- hp] at g1 hf;by_cases c2:(c.toNat:Int)<p.key
      ·rw[if_pos (zT c2)] at hf;have hR':=hR (j+1) (by omega) (by omega)
       rw[hf] at hR';obtain⟨C,hC⟩:∃ C,C=B'++(l.take j).filter (fun(p:Pr)=>decide ((c.toNat:Int)<p.key)):=⟨_,rfl⟩
       have hcl:C.length<=2000001:=by rw[hC,zA];omega
       rw[<- List.append_assoc,<- hC] at hR';rw[<- hC];obtain⟨C',hC',hm1,hm2⟩:∃ C':List Pr,C++[p]=C'∧C.map Pr.enc++[p.enc]=C'.map Pr.enc∧C.length+1=C'.length:=⟨_,rfl,by simp,by simp⟩
       rw[hC'] at hR';refine bd ?_ kE.eq_1 g1 @Pr.len @Pr.tk @Pr.tkL @Pr.at0 hc0 (zT c2) hm1 hm2;exact hR' _ _ bA
      ·rw[if_neg (by simpa using c2),List.append_nil] at hf
       have hR':=hR (j+1) (by omega) (by omega)
       rw[hf] at hR';generalize B'++(l.take j).filter (fun(p:Pr)=>decide ((c.toNat:Int)<p.key))=C at hR' ⊢
       refine bd ?_ kE.eq_1 g1 @Pr.len @Pr.tk @Pr.tkL @Pr.at0 hc0 (zF c2);exact hR' _ _ bA
     ·have hj2:l.take j=l:=zL (by omega)
      rw[hj2];obtain⟨C,hC⟩:∃ C,C=B'++l.filter (fun(p:Pr)=>decide ((c.toNat:Int)<p.key)):=⟨_,rfl⟩
      rw[<- hC] at hz ⊢;rw[hz];have ht:List.take C.length (C.map Pr.enc)=C.map Pr.enc:=zL (by simp)
      refine bd ?_ kE.eq_1 K3.eq_1 ht;try simp[trim]
def jc (p:Pr):List UInt8:=UInt8.ofNat p.key.toNat::(ah p.val.length++p.val)
def aX (l:List Pr):List UInt8:=ah l.length++l.flatMap jc
theorem GZ (l:List Pr) (hl:l.length<=1000000) (hb:(aX l).length<=1000000000) (hk:∀ p∈l,0<=p.key∧p.key<256):call 39 [vl (l.map Pr.enc)] []=some (vs (aX l),[]):=by
 apply ae Xh rfl;have h0:=iX l.length (by omega)
 refine bd ?_ Vc.eq_1 h0;refine aq (m:=0) (σ:=Nat) (fun i=>l.length-i) (fun i=>i<=l.length) (fun i=>[vl (l.map Pr.enc),vs (ah l.length++(l.take i).flatMap jc),vi i]) (fun _=>[])
  (fun _=>(vs (aX l),[])) ?_ 0 (zP _) _ _ (at_head2 (by decide) (by simp only[List.map_cons,List.map_nil,go_sem,seval];exact rfl) (by simp[aI,aD,ax,aE,aw,V.ren,L.ren,Box.ren,V.refs,L.refs,Box.refs,List.append_nil]) (by simp[aI,aD,ax,aE,aw,V.ren,L.ren,Box.ren,V.refs,L.refs,Box.refs,List.append_nil]))
 intro i h1 R hR;by_cases hi:i<l.length
 ·have g1:(l.map Pr.enc)[i]?=some l[i].enc:=by rw[zG,zE hi];rfl
  have hnx:ah l.length++(l.take (i+1)).flatMap jc=(ah l.length++(l.take i).flatMap jc)++jc l[i]:=by
   rw[zO hi,List.flatMap_append];simp
  have hle:((ah l.length++(l.take i).flatMap jc)++jc l[i]).length<=1000000000:=by
   rw[<- hnx];refine Nat.le_trans ?_ hb;have e:l.flatMap jc=(l.take (i+1)).flatMap jc++(l.drop (i+1)).flatMap jc:=by rw[<- List.flatMap_append,zY]
   rw[aX,e];simp;try omega
  have hR':=hR (i+1) (by omega) (by omega)
  rw[hnx] at hR';obtain⟨p,hp⟩:∃ p,p=l[i]:=⟨_,rfl⟩;rw[<- hp] at g1 hle hR';obtain⟨S,hS⟩:∃ S,S=ah l.length++(l.take i).flatMap jc:=⟨_,rfl⟩;rw[<- hS] at hle hR' ⊢;have hpb:(jc p).length=1+(ah p.val.length).length+p.val.length:=by simp[jc];omega
  rw[zA] at hle;have hput:=iX p.val.length (by omega)
  have hbo:gk [[.i .u8 p.key]]=some [UInt8.ofNat p.key.toNat]:=rfl;rw[show S++jc p=((S++[UInt8.ofNat p.key.toNat])++ah p.val.length)++p.val by simp[jc]] at hR'
  rw[hpb] at hle;obtain⟨E,hE⟩:∃ E,E=ah p.val.length:=⟨_,rfl⟩;rw[<- hE] at hR' hput hle;have q1:(S++[UInt8.ofNat p.key.toNat]).length=S.length+1:=by simp
  have q2:((S++[UInt8.ofNat p.key.toNat])++E).length=S.length+1+E.length:=by simp;omega
  obtain⟨S1,hS1⟩:∃ S1,S1=S++[UInt8.ofNat p.key.toNat]:=⟨_,rfl⟩;rw[<- hS1] at q1 q2 hR';obtain⟨S2,hS2⟩:∃ S2,S2=S1++E:=⟨_,rfl⟩;rw[<- hS2] at q2 hR';(simp(disch:=first|decide|omega|(intros;exact aP rfl rfl)|simp only[am]) only[KU,g1,Pr.len,Pr.tk,Pr.tkL,Pr.at0,Pr.at1,hbo,hput,<- hS1,<- hS2,go_sem,seval,aO,gL,A.kind,A.xs,co,A.isN])
  exact hR' _ _ bA
 ·have ht:l.take i=l:=zL (by omega)
  rw[ht];refine R5 ?_ KU.eq_1 Vc.eq_1;try simp[trim,aX]
structure SZ (seg:Int) (M:List SR) (g:Seg):Prop where
 old:∀ p∈M,seg<=p.1.size∧p.1.size<=seg+90
 last:g.size<=seg+90
def Up (f seg:Int) (s:Sto) (R:List Rec):Prop:=∃ M g l,Inv f s M g l∧SZ seg M g∧aQ (M++[(g,l)])=R
theorem Fq {k u:Nat} {s:Sto} (ho:okS k u s) (h:s.sure<=s.next):s.sure<=(cC s).1.sure:=by
 have:=FT ho h;unfold cC;split
 ·exact Int.le_refl _
 ·split
  ·exact this
  ·split <;> exact this
theorem tj (s:Txt):call 92 [vs s] []=some (vb (dU s),[]):=by
 apply ae V7 rfl;unfold dU;cases s with
 | nil=>(simp(disch:=first|decide|omega|(intros;exact aP rfl rfl)|simp only[am]) only[Tf,go_sem,seval,aO]);try rfl
 | cons a r =>
  have h1:(1:Int)<=((a::r).length:Nat):=by simp;omega
  generalize hq:(a::r)=q at *;have h2:q≠[]:=by rw[<- hq];simp
  by_cases c:q.length<=32
  ·refine bd ?_ Tf.eq_1 h1 c;simp[h2]
  ·refine bd ?_ Tf.eq_1 h1 c;simp[h2]
def oD (l:List Fil) (n:Txt):Int:=if bS l n=true then(au l n:Nat) else -1
theorem sL {l:List Fil} (hs:srt l) (n:Txt) (i:Nat) (h:i<l.length):l[i].name=n↔(bS l n=true∧i=au l n):=by
 constructor
 ·rintro rfl;exact⟨Az hs (zN h),(KZ hs i h).symm⟩
 ·rintro⟨h1,rfl⟩;obtain⟨hp,he⟩:=cq h1;exact he
theorem ft (d:Dsk) (hl:d.files.length<=1000000) (hs:srt d.files) (n:Txt):call 47 [.agg d.l,vs n] []=some (vi (oD d.files n),[]):=by
 apply ae WC rfl;obtain⟨fl,cp,ar,lf,dn⟩:=d;simp only at hl hs ⊢;obtain⟨Z,hZ⟩:∃ Z:V,Z=vi (oD fl n):=⟨_,rfl⟩;rw[<- hZ];refine bd ?_ VG.eq_1 @Dsk.l.eq_1;refine aq (m:=0) (σ:=Nat) (fun i=>fl.length-i) (fun i=>i<=fl.length∧(bS fl n=true->i<=au fl n)) (fun i=>[vs n,V.one (.p 0 0),vi i])
  (fun _=>[.cells [.d (.l (fl.map Fil.enc)),zI cp,zB ar,zI lf,zB dn]]) (fun _=>(Z,[])) ?_ 0 ⟨zP _,fun _=>zP _⟩ _ _ ?_
 rotate_left
 ·exact bA
 rintro i ⟨hi,hp⟩ R hR;by_cases c:i<fl.length
 ·have g1:(fl.map Fil.enc)[i]?=some fl[i].enc:=by simp[c]
  have hk:=sL hs n i c;by_cases c2:fl[i].name=n
  ·have e:(fl[i].name == n)=true:=by rw[c2];exact beq_self_eq_true _
   obtain⟨h1,h2⟩:=hk.1 c2;have hz:oD fl n=i:=by unfold oD;rw[if_pos h1,<- h2]
   rw[hz] at hZ;refine bd ?_ Fm.eq_1 c g1 @Fil.len @Fil.at0 e;rw[hZ];try simp[trim]
  ·have e:(fl[i].name == n)=false:=by rw[beq_eq_false_iff_ne];exact c2
   refine bd ?_ Fm.eq_1 c g1 @Fil.len @Fil.at0 e;exact hR (i+1) (by omega) ⟨by omega,fun h=>by
    have:=hp h;rcases Nat.lt_or_ge i (au fl n) with h3|h3
    ·omega
    ·exact absurd (hk.2 ⟨h,by omega⟩) c2⟩ _ _ bA
 ·have hz:oD fl n = -1:=by
   unfold oD;rw[if_neg];intro h;obtain⟨h1,_⟩:=cq h;have:=hp h;omega
  rw[hz] at hZ;refine bd ?_ Fm.eq_1 c;rw[hZ];try simp[trim]
theorem Cv (d:Dsk) (hl:d.files.length<=1000000) (hu:usedF d.files<=1000000000000):call 132 [.agg d.l] []=some (vi (usedF d.files:Nat),[]):=by
 apply ae Vu rfl;obtain⟨fl,cp,ar,lf,dn⟩:=d;simp only at hl hu ⊢;refine bd ?_ QR.eq_1 @Dsk.l.eq_1;refine aq (m:=0) (σ:=Nat) (fun i=>fl.length-i) (fun i=>i<=fl.length) (fun i=>[V.one (.p 0 0),vi (usedF (fl.take i):Nat),vi i])
  (fun _=>[.cells [.d (.l (fl.map Fil.enc)),zI cp,zB ar,zI lf,zB dn]]) (fun _=>(vi (usedF fl:Nat),[])) ?_ 0 (zP _) _ _ ?_
 rotate_left
 ·exact bA
 intro i hi R hR;by_cases c:i<fl.length
 ·have g1:(fl.map Fil.enc)[i]?=some fl[i].enc:=by simp[c]
  have hK:=hR (i+1) (by omega) (by omega)
  have e1:usedF (fl.take (i+1))=usedF (fl.take i)+fl[i].data.length:=by rw[zO c,cW,gM]
  have h2:=n5 fl (i+1);rw[e1] at hK h2;have e2:((usedF (fl.take i)+fl[i].data.length:Nat):Int)=(usedF (fl.take i):Int)+(fl[i].data.length:Int):=by omega
  rw[e2] at hK;refine bd ?_ CR.eq_1 c g1 @Fil.len @Fil.at1;exact hK _ _ bA
 ·have e:fl.take i=fl:=zL (by omega)
  rw[e];refine bd ?_ CR.eq_1 c;try simp[trim]
def pw (l:List Fil) (n:Txt):List Fil:=l.filter fun f=>decide (f.name≠n)
def N6 (l:List Fil) (f:Fil):List Fil:=hJ (pw l f.name) (au (pw l f.name) f.name) f
theorem EW (l:List Fil) (n:Txt):(pw l n).length<=l.length:=List.length_filter_le _ _
theorem MC {l:List Fil} (hs:srt l) (n:Txt):srt (pw l n):=List.Pairwise.filter _ hs
theorem mt (l:List Fil) (hl:l.length<=1000000) (n:Txt):call 78 [vl (l.map Fil.enc),vs n] []=some (vl ((pw l n).map Fil.enc),[]):=by
 apply ae Wn rfl;obtain⟨Z,hZ⟩:∃ Z:V,Z=vl ((pw l n).map Fil.enc):=⟨_,rfl⟩;rw[<- hZ];refine bd ?_ Vx.eq_1;refine aq (m:=0) (σ:=Nat) (fun i=>l.length-i) (fun i=>i<=l.length) (fun i=>[vl (l.map Fil.enc),vs n,V.one (.sl 0 3 0 (pw (l.take i) n).length),vi i])
  (fun i=>[.arr 3 ((pw (l.take i) n).map Fil.enc) 0]) (fun _=>(Z,[])) ?_ 0 (zP _) _ _ ?_
 rotate_left
 ·exact bA
 intro i hi R hR;have hln:((pw (l.take i) n).map Fil.enc).length=(pw (l.take i) n).length:=by simp
 have hle:(pw (l.take i) n).length<=1000000:=Nat.le_trans (EW _ _) (by simp;omega)
 by_cases c:i<l.length
 ·have g1:(l.map Fil.enc)[i]?=some l[i].enc:=by simp[c]
  have hK:=hR (i+1) (by omega) (by omega)
  by_cases c2:l[i].name=n
  ·have e:(l[i].name == n)=true:=by rw[c2];exact beq_self_eq_true _
   have e1:pw (l.take (i+1)) n=pw (l.take i) n:=by
    rw[zO c];unfold pw;rw[List.filter_append];simp[c2]
   rw[e1] at hK;refine bd ?_ Eh.eq_1 c g1 @Fil.len @Fil.at0 e;exact hK _ _ bA
  ·have e:(l[i].name == n)=false:=by rw[beq_eq_false_iff_ne];exact c2
   have e1:pw (l.take (i+1)) n=pw (l.take i) n++[l[i]]:=by
    rw[zO c];unfold pw;rw[List.filter_append];simp[c2]
   rw[e1,List.map_append,zA,List.length_singleton] at hK;generalize (pw (l.take i) n).map Fil.enc=Q at *;generalize (pw (l.take i) n).length=q at *;generalize l[i]=f at *;obtain⟨fn,fd,fs⟩:=f;simp only[Fil.enc,List.map_cons,List.map_nil] at g1 e hK;refine bd ?_ Eh.eq_1 c g1 e hln;exact hK _ _ bA
 ·have e:l.take i=l:=zL (by omega)
  rw[e] at hln hle ⊢;have ht:((pw l n).map Fil.enc).take (pw l n).length=(pw l n).map Fil.enc:=zL (by omega)
  generalize (pw l n).map Fil.enc=Q at *;generalize (pw l n).length=q at *;refine bd ?_ Eh.eq_1 c hln ht;rw[hZ];try simp[trim]
theorem lK (l:List Fil) (hl:l.length<=1000000) (hs:srt l) (f:Fil):call 58 [vl (l.map Fil.enc),.agg (f.enc.map .d)] []=some (vl ((N6 l f).map Fil.enc),[]):=by
 have q1:=mt l hl f.name;have hml:=EW l f.name;have hms:=MC hs f.name;apply ae Ww rfl;unfold N6;generalize pw l f.name=m at *;have hpi:=jq hms f.name;have hple:=pm m f.name;have hin:(hJ m (au m f.name) f).map Fil.enc=(m.map Fil.enc).take (au m f.name)++[f.enc]++(m.map Fil.enc).drop (au m f.name):=by
  rw[<- yG];simp
 rw[hin];generalize hpp:au m f.name=pp at *;obtain⟨fn,fd,fs⟩:=f;simp only[Fil.enc,List.map_cons,List.map_nil] at *;refine bd ?_ VX.eq_1 q1;refine aq (m:=0) (σ:=Nat) (fun i=>pp-i) (fun i=>i<=pp) (fun i=>[vl (m.map Fil.enc),V.one (.p 0 0),vi i])
  (fun _=>[.cells [zS fn,zS fd,zI fs]]) (fun _=>(vl ((m.map Fil.enc).take pp++[[.s fn,.s fd,.i .i64 fs]]++(m.map Fil.enc).drop pp),[])) ?_ 0 (zP _) _ _ ?_
 rotate_left
 ·exact bA
 intro i hi R hR;have hend:i=pp->∀ (b:Bool),True:=fun _ _=>trivial
 by_cases c:i<m.length
 ·have g1:(m.map Fil.enc)[i]?=some m[i].enc:=by simp[c]
  have hb:=hpi i c;by_cases c2:i<pp
  ·have e:Op.bytesLess m[i].name fn=true:=hb.2 c2;refine bd ?_ EA.eq_1 c g1 @Fil.len @Fil.at0 e;exact hR (i+1) (by omega) (by omega) _ _ bA
  ·have e:Op.bytesLess m[i].name fn=false:=by
    cases h:Op.bytesLess m[i].name fn with
    | true=>exact absurd (hb.1 h) c2
    | false=>rfl
   have hip:i=pp:=by omega
   subst hip;have hb1:=xA (n:=m.length) (k:=i) (by omega)
   have hb2:=xx (n:=m.length) (k:=i) (by omega)
   have hok:aV 3 (m.map Fil.enc)=true:=aZ Fil.len m;have hok1:aV 3 ((m.map Fil.enc).take i)=true:=by rw[<- List.map_take];exact aZ Fil.len _
   have hok2:aV 3 ((m.map Fil.enc).drop i)=true:=by rw[<- List.map_drop];exact aZ Fil.len _
   have htk:(m.map Fil.enc).take m.length=m.map Fil.enc:=zL (by simp)
   have hmm:(m.map Fil.enc).length=m.length:=by simp
   generalize m.map Fil.enc=MQ at *;obtain⟨Q1,hQ1⟩:∃ Q1,MQ.take i=Q1:=⟨_,rfl⟩;obtain⟨Q2,hQ2⟩:∃ Q2,MQ.drop i=Q2:=⟨_,rfl⟩;have hq1:Q1.length<=1000000:=by rw[<- hQ1,zQ];omega
   have hq2:Q2.length<=1000000:=by rw[<- hQ2,zH];omega
   rw[hQ1] at hok1 ⊢;rw[hQ2] at hok2 ⊢;refine cm ?_ EA.eq_1 c g1 @Fil.len @Fil.at0 e hb1 hb2 hok hok1 hok2 (And.intro htk (And.intro hmm (And.intro hQ1 hQ2)));simp[zR];exact zL (by simp;omega)
 ·have hip:i=pp:=by omega
  subst hip;have him:i=m.length:=by omega
  have hb1:=xA (n:=m.length) (k:=i) (by omega)
  have hb2:=xx (n:=m.length) (k:=i) (by omega)
  have hok:aV 3 (m.map Fil.enc)=true:=aZ Fil.len m;have hok1:aV 3 ((m.map Fil.enc).take i)=true:=by rw[<- List.map_take];exact aZ Fil.len _
  have hok2:aV 3 ((m.map Fil.enc).drop i)=true:=by rw[<- List.map_drop];exact aZ Fil.len _
  have htk:(m.map Fil.enc).take m.length=m.map Fil.enc:=zL (by simp)
  have hmm:(m.map Fil.enc).length=m.length:=by simp
  generalize m.map Fil.enc=MQ at *;obtain⟨Q1,hQ1⟩:∃ Q1,MQ.take i=Q1:=⟨_,rfl⟩;obtain⟨Q2,hQ2⟩:∃ Q2,MQ.drop i=Q2:=⟨_,rfl⟩;have hq1:Q1.length<=1000000:=by rw[<- hQ1,zQ];omega
  have hq2:Q2.length<=1000000:=by rw[<- hQ2,zH];omega
  rw[hQ1] at hok1 ⊢;rw[hQ2] at hok2 ⊢;refine cm ?_ EA.eq_1 c hb1 hb2 hok hok1 hok2 htk hmm hQ1 hQ2;simp[zR];exact zL (by simp;omega)
theorem bG (d:Dsk) (hL:0<=d.left∧d.left<9223372036854775808) (l:List Fil) (own:Int):call 57 [.agg d.l,vl (l.map Fil.enc),vi own] []=some (aK (ai d (l,own)),[]):=by
 apply ae Wt rfl;obtain⟨fl,cp,ar,lf,dn⟩:=d;unfold ai aK;simp only at hL ⊢;cases dn with
 | true =>
  refine bh ?_ QC.eq_1 @Dsk.l.eq_1;try simp[trim]
 | false =>
  by_cases c:own=0
  ·subst c;cases ar with
   | false =>
    refine bh ?_ QC.eq_1 @Dsk.l.eq_1;try simp[trim]
   | true =>
    by_cases c2:lf=0
    ·subst c2;refine bh ?_ QC.eq_1 @Dsk.l.eq_1;try simp[trim]
    ·have e:(lf == 0)=false:=by simpa using c2
     refine bh ?_ QC.eq_1 @Dsk.l.eq_1 c2 e;try simp[trim,c2]
  ·refine bh ?_ QC.eq_1 @Dsk.l.eq_1 c;try simp[trim,c]
theorem ON {l:List Fil} (hs:srt l) {n:Txt} (h:bS l n=false):pw l n=l:=by
 unfold pw;rw[List.filter_eq_self];intro f hf;simpa using oh hs h f hf
theorem yx {l:List Fil} (hs:srt l) {n:Txt} (h:bS l n=true):pw l n=fI l (au l n):=by
 obtain⟨hp,he⟩:=cq h;have hne:∀ i (hi:i<l.length),i≠au l n->l[i].name≠n:=fun i hi h1 h2=>h1 ((sL hs n i hi).1 h2).2
 have e:l=l.take (au l n)++(l[au l n]::l.drop (au l n+1)):=by rw[<- zD hp,zY]
 unfold pw fI;conv=>lhs;rw[e]
 rw[List.filter_append,List.filter_cons_of_neg (by simp[he]),List.filter_eq_self.2,List.filter_eq_self.2]
 ·intro f hf;obtain⟨i,hi,rfl⟩:=zJ hf;rw[List.getElem_drop];rw[zH] at hi;simpa using hne _ (by omega) (by omega)
 ·intro f hf;obtain⟨i,hi,rfl⟩:=zJ hf;rw[List.getElem_take];rw[zQ] at hi;simpa using hne _ (by omega) (by omega)
theorem LU {l:List Fil} (hs:srt l) {n:Txt} (h:bS l n=true):au (fI l (au l n)) n=au l n:=by
 obtain⟨hp,he⟩:=cq h;have h1:(l.take (au l n)).countP (fun f=>bl f.name n)=au l n:=by
  conv=>rhs;rw[<- Nat.min_eq_left (Nat.le_of_lt hp),<- zQ]
  rw[List.countP_eq_length];intro f hf;obtain⟨i,hi,rfl⟩:=zJ hf;rw[List.getElem_take];rw[zQ] at hi;exact(jq hs n i (by omega)).2 (by omega)
 have h2:(l.drop (au l n+1)).countP (fun f=>bl f.name n)=0:=by
  rw[List.countP_eq_zero];intro f hf;obtain⟨i,hi,rfl⟩:=zJ hf;rw[List.getElem_drop];rw[zH] at hi;intro h3;have:=(jq hs n _ (by omega)).1 h3
  omega
 unfold fI;show List.countP _ _=_;rw[List.countP_append,h1,h2];rfl
theorem Ii {l:List Fil} (hs:srt l) (f:Fil) (h:bS l f.name=false):N6 l f=hJ l (au l f.name) f:=by unfold N6;rw[ON hs h]
theorem tI {l:List Fil} (hs:srt l) (f:Fil) (h:bS l f.name=true):N6 l f=l.set (au l f.name) f:=by
 unfold N6;rw[yx hs h,LU hs h];obtain⟨hp,he⟩:=cq h;generalize au l f.name=p at *;unfold hJ fI;rw[List.set_eq_take_append_cons_drop,if_pos hp];have hl:(l.take p).length=p:=by simp;omega
 congr 1
 ·rw[List.take_append_of_le_length (by omega),zL (by omega)]
 ·congr 1
  rw[List.drop_append_of_le_length (by omega),List.drop_of_length_le (by omega),List.nil_append]
theorem ME {l:List Fil} (hs:srt l) (f:Fil):N6 l f=jm l f:=by
 unfold jm;cases h:bS l f.name with
 | true=>rw[if_pos rfl];exact tI hs f h
 | false=>rw[if_neg (by simp)];exact Ii hs f h
theorem ja {l:List Fil} {n:Txt} (h:bS l n=false):oD l n = -1:=by unfold oD;rw[h];rfl
theorem gJ {l:List Fil} {n:Txt} (h:bS l n=true):oD l n=(au l n:Nat):=by unfold oD;rw[if_pos h]
theorem mI (d:Dsk) (hd:d.ok) (n:Txt):call 70 [.agg d.l,vs n] []=some (aK (ai d (bB d.files n)),[]):=by
 apply ae Wy rfl;have h1:=tj n;have h2:=ft d hd.len hd.srt n;have h3:=lK d.files hd.len hd.srt ⟨n,[],0⟩;have h4:=bG d hd.left [] 1;have h5:=bG d hd.left [] 8;have h6:=bG d hd.left (N6 d.files ⟨n,[],0⟩) 0;unfold bB;cases c1:dU n with
 | false =>
  rw[c1] at h1;rw[if_neg (by simp)]
  generalize ai d ([],1)=r at *;obtain⟨⟨f2,cp2,ar2,lf2,dn2⟩,e2⟩:=r;obtain⟨fl,cp,ar,lf,dn⟩:=d;simp only[aK,Dsk.l,List.map_nil] at h4 ⊢;refine bh ?_ Tp.eq_1 h1 h4;try simp[trim]
 | true =>
  rw[c1] at h1;rw[if_pos rfl];cases c2:bS d.files n with
  | true =>
   rw[if_pos rfl];rw[gJ c2] at h2;generalize ai d ([],8)=r at *;obtain⟨⟨f2,cp2,ar2,lf2,dn2⟩,e2⟩:=r;obtain⟨fl,cp,ar,lf,dn⟩:=d;simp only[aK,Dsk.l,List.map_nil] at h2 h5 ⊢;refine bh ?_ Tp.eq_1 h1 h2 h5;try simp[trim]
  | false =>
   rw[if_neg (by simp)]
   rw[ja c2] at h2;rw[Ii hd.srt ⟨n,[],0⟩ c2] at h3 h6;simp only[] at h3 h6;generalize hJ d.files (au d.files n) ⟨n,[],0⟩=q at *;generalize ai d (q,0)=r at *;obtain⟨⟨f2,cp2,ar2,lf2,dn2⟩,e2⟩:=r;obtain⟨fl,cp,ar,lf,dn⟩:=d;simp only[aK,Dsk.l,Fil.enc,List.map_cons,List.map_nil] at h2 h3 h6 ⊢;refine bh ?_ Tp.eq_1 h1 h2 h3 h6;try simp[trim]
theorem jp (d:Dsk) (hd:d.ok) (n:Txt):call 56 [.agg d.l,vs n] []=some (aK (ai d (bN d.files n)),[]):=by
 apply ae Wx rfl;have h2:=ft d hd.len hd.srt n;have h3:=mt d.files hd.len n;have h4:=bG d hd.left [] 7;have h6:=bG d hd.left (pw d.files n) 0;unfold bN;cases c2:bS d.files n with
 | false =>
  rw[if_neg (by simp)]
  rw[ja c2] at h2;generalize ai d ([],7)=r at *;obtain⟨⟨f2,cp2,ar2,lf2,dn2⟩,e2⟩:=r;obtain⟨fl,cp,ar,lf,dn⟩:=d;simp only[aK,Dsk.l,List.map_nil] at h2 h4 ⊢;refine bh ?_ Tw.eq_1 h2 h4;try simp[trim]
 | true =>
  rw[if_pos rfl];rw[gJ c2] at h2;rw[yx hd.srt c2] at h3 h6;generalize fI d.files (au d.files n)=q at *;generalize ai d (q,0)=r at *;obtain⟨⟨f2,cp2,ar2,lf2,dn2⟩,e2⟩:=r;obtain⟨fl,cp,ar,lf,dn⟩:=d;simp only[aK,Dsk.l] at h2 h3 h6 ⊢;refine bh ?_ Tw.eq_1 h2 h3 h6;try simp[trim]
theorem mw (d:Dsk) (hd:d.ok) (n:Txt):call 35 [.agg d.l,vs n] []=some (aK (ai d (ch d.files n)),[]):=by
 apply ae Wa rfl;have h2:=ft d hd.len hd.srt n;have h4:=bG d hd.left [] 7;unfold ch;cases c2:bS d.files n with
 | false =>
  rw[if_neg (by simp)]
  rw[ja c2] at h2;generalize ai d ([],7)=r at *;obtain⟨⟨f2,cp2,ar2,lf2,dn2⟩,e2⟩:=r;obtain⟨fl,cp,ar,lf,dn⟩:=d;simp only[aK,Dsk.l,List.map_nil] at h2 h4 ⊢;refine bh ?_ Ua.eq_1 h2 h4;try simp[trim]
 | true =>
  rw[if_pos rfl];rw[gJ c2] at h2;obtain⟨hp,he⟩:=cq c2;rw[ji hp];have g1:(d.files.map Fil.enc)[au d.files n]?=some d.files[au d.files n].enc:=by simp[hp]
  have hdl:=nP d.files _ hp;have hu:=hd.used;have h3:=lK d.files hd.len hd.srt { d.files[au d.files n] with sure:=d.files[au d.files n].data.length }
  have h5:=tI hd.srt { d.files[au d.files n] with sure:=d.files[au d.files n].data.length } (by simp only[he];exact c2)
  rw[h5] at h3;simp only[he] at h3;have hK:=bG d hd.left (d.files.set (au d.files n) { d.files[au d.files n] with sure:=d.files[au d.files n].data.length }) 0
  have hpl:=hd.len;generalize au d.files n=p at *;simp only[he] at hK ⊢;generalize d.files[p]=f at *;obtain⟨fn,fd,fs⟩:=f;simp only at he h3 hK hdl ⊢;subst he;generalize d.files.set p ⟨fn,fd,fd.length⟩=q at *;generalize ai d (q,0)=r at *;obtain⟨⟨f2,cp2,ar2,lf2,dn2⟩,e2⟩:=r;obtain⟨fl,cp,ar,lf,dn⟩:=d;simp only[aK,Dsk.l,Fil.enc,List.map_cons,List.map_nil] at g1 h2 h3 hK hp hpl ⊢;refine bh ?_ Ua.eq_1 h2 g1 h3 hK;try simp[trim]
end Go.Proofs.YtgoifbjgmgbihaaGreat
