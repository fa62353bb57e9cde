import Derived.Test.YtghfhomfppbooaaGreatT04
import Derived.Test.YtghfhomfppbooaaGreatVie
import Derived.Test.YtghfhomfppbooaaGreatT03
set_option linter.unusedSimpArgs false
set_option linter.unusedVariables false
set_option maxRecDepth 20000
set_option maxHeartbeats 16000000
namespace Go.Proofs.YtghfhomfppbooaaGreat
open Go.Vi
theorem wL (l:List Fil) (n:Txt):(aB l n).2=0↔bA l n=true:=by
 unfold aB bA;cases l[aw l n]? with
 | none=>simp
 | some f =>
  simp only[];by_cases h:f.name=n
  ·simp[h]
  ·simp[h]
def oY (tx:Txt) (d:Dsk):Dsk × Int :=
 let c:=aA d (cN d.files [110])
 if c.2≠0 then c else
  let p:=aA c.1 (dg c.1.files c.1.cap [110] tx)
  if p.2=9 then(let x:=aA p.1 (b7 p.1.files [110]);if x.2=0 then(x.1,9) else x) else
   if p.2≠0 then p else
    let y:=aA p.1 (di p.1.files [110])
    if y.2≠0 then y else aA y.1 (jF y.1.files [110] [109])
def x6 (m:Man) (d:Dsk):Dsk × Int :=
 if(aX m).2≠0 then(d,(aX m).2) else
  if bA d.files [110]=true then(let x:=aA d (b7 d.files [110]);if x.2≠0 then x else oY (aX m).1 x.1) else oY (aX m).1 d
theorem gw {s:Dsk × Int} (h:s.2≠0) (f:Dsk->Dsk × Int):rT s f=s:=by unfold rT;rw[if_neg h]
theorem cA (d:Dsk) (f:Dsk->Dsk × Int):rT (d,0) f=f d:=by unfold rT;rw[if_pos rfl]
theorem iw {s:Dsk × Int} {e:Int} (h:s.2=e):s=(s.1,e):=by rw[<- h]
theorem Am (tx:Txt) (d:Dsk):(if(bS [110] (d,0)).2≠0 then bS [110] (d,0) else uw [110] [109] (gK [110] (eD [110] (lT [110] tx (bS [110] (d,0))))))=oY tx d:=by
 unfold oY;have e0:bS [110] (d,0)=aA d (cN d.files [110]):=cA _ _;rw[e0];simp only[];generalize aA d (cN d.files [110])=c;by_cases h1:c.2=0
 ·rw[if_neg (by simp[h1]),if_neg (by simp[h1]),iw h1]
  have e1:lT [110] tx (c.1,0)=aA c.1 (dg c.1.files c.1.cap [110] tx):=cA _ _;rw[e1];simp only[];generalize aA c.1 (dg c.1.files c.1.cap [110] tx)=p;by_cases h2:p.2=9
  ·rw[if_pos h2];unfold eD;rw[if_neg (by simp[h2])]
   have e2:cQ [110] (p.1,0)=aA p.1 (b7 p.1.files [110]):=cA _ _;rw[e2];generalize aA p.1 (b7 p.1.files [110])=x;by_cases h3:x.2=0
   ·rw[if_pos h3];rfl
   ·rw[if_neg h3];unfold uw gK;rw[gw (s:=x) h3,gw h3]
  ·rw[if_neg h2];unfold eD;rw[if_pos h2];by_cases h3:p.2=0
   ·rw[if_neg (by simp[h3]),iw h3]
    have e2:gK [110] (p.1,0)=aA p.1 (di p.1.files [110]):=cA _ _;rw[e2];simp only[];generalize aA p.1 (di p.1.files [110])=y;by_cases h4:y.2=0
    ·rw[if_neg (by simp[h4]),iw h4]
     exact cA _ _
    ·rw[if_pos h4];exact gw h4 _
   ·rw[if_pos h3];unfold uw gK;rw[gw h3,gw h3]
 ·rw[if_pos h1,if_pos h1]
theorem Hx (m:Man) (d:Dsk):bX m (d,0)=x6 m d:=by
 unfold bX x6;simp only[if_true];by_cases h1:(aX m).2=0
 ·rw[if_neg (c:=(aX m).2≠0) (by simp[h1])]
  by_cases h2:bA d.files [110]=true
  ·rw[if_pos h2,if_pos ((wL _ _).2 h2),h1];have e0:cQ [110] (d,0)=aA d (b7 d.files [110]):=cA _ _;rw[e0];generalize aA d (b7 d.files [110])=x;by_cases h3:x.2=0
   ·rw[if_neg (c:=x.2≠0) (by simp[h3]),iw h3];exact Am _ _
   ·rw[if_pos (c:=x.2≠0) h3];have e1:bS [110] x=x:=gw h3 _;simp only[e1];rw[if_pos (c:=x.2≠0) h3]
  ·rw[if_neg h2,if_neg (fun h=>h2 ((wL _ _).1 h)),h1]
   exact Am _ _
 ·rw[if_pos h1];have e0:cQ [110] (d,(aX m).2)=(d,(aX m).2):=gw h1 _;rw[e0,ite_self];have e1:bS [110] (d,(aX m).2)=(d,(aX m).2):=gw h1 _;rw[e1,if_pos h1]
theorem mK (d:Dsk) {k u:Nat} (hd:okN k u d) (hk:k<=900000) (hu:u<=900000000000) (m:Man) (hm:m.ok):call 78 [.agg d.l,.agg m.l] []=some (aR (bX m (d,0)),[]):=by
 rw[Hx];have q0:=gM m hm;have hpl:=mj m;unfold x6;generalize aX m=p0 at *;obtain⟨tx,pe⟩:=p0;obtain⟨mv,ms,mz,mm⟩:=m;have q1:=dH d (Nat.le_trans hd.len (by omega)) hd.srt [110]
 have q2:=cG d (hd.ok (by omega) (by omega)) [110]
 have k1:okN k u (aA d (b7 d.files [110])).1:=dM (s:=(d,0)) hd [110];simp only[Man.l] at q0 hpl ⊢;apply ah OK rfl;by_cases c0:pe=0
 ·subst c0;rw[if_neg (by simp)]
  cases c1:bA d.files [110] with
  | true =>
   rw[if_pos rfl];rw[eN c1] at q1;generalize aw d.files [110]=pp at *;generalize aA d (b7 d.files [110])=x at *;by_cases c2:x.2=0
   ·rw[if_neg (by simp[c2])]
    rw[iw c2] at q2;generalize x.1=y at *;have t1:=fw y (k1.ok (by omega) (by omega)) [110]
    have k2:=fH (s:=(y,0)) k1 [110];have ec:bS [110] (y,0)=aA y (cN y.files [110]):=cA _ _;rw[ec] at k2;unfold oY;simp only[];generalize aA y (cN y.files [110])=c at *;by_cases c3:c.2=0
    ·rw[if_neg (by simp[c3])]
     have t2:=gH c.1 (k2.ok (by omega) (by omega)) [110] tx (by omega)
     have k3:=kR (s:=(c.1,0)) k2 [110] tx;have ea:lT [110] tx (c.1,0)=aA c.1 (dg c.1.files c.1.cap [110] tx):=cA _ _;rw[ea] at k3;generalize aA c.1 (dg c.1.files c.1.cap [110] tx)=p at *;have t3:=cG p.1 (k3.ok (by omega) (by omega)) [110]
     have t4:=fK p.1 (k3.ok (by omega) (by omega)) [110]
     have k4:=ky (s:=(p.1,0)) k3 [110];have es:gK [110] (p.1,0)=aA p.1 (di p.1.files [110]):=cA _ _;rw[es] at k4;generalize aA p.1 (b7 p.1.files [110])=r at *;generalize aA p.1 (di p.1.files [110])=w at *;have t5:=nu w.1 (k4.ok (by omega) (by omega)) [110] [109]
     generalize aA w.1 (jF w.1.files [110] [109])=v at *;obtain⟨⟨f1,cp1,ar1,lf1,dn1⟩,e1⟩:=c;obtain⟨⟨f2,cp2,ar2,lf2,dn2⟩,e2⟩:=p;obtain⟨⟨f3,cp3,ar3,lf3,dn3⟩,e3⟩:=r;obtain⟨⟨f4,cp4,ar4,lf4,dn4⟩,e4⟩:=w;obtain⟨⟨f5,cp5,ar5,lf5,dn5⟩,e5⟩:=v;obtain⟨fy,cpy,ary,lfy,dny⟩:=y;obtain⟨fl,cp,ar,lf,dn⟩:=d;simp only[aR,Dsk.l] at q1 q2 t1 t2 t3 t4 t5 c3 ⊢;subst c3;by_cases c4:e2=9
     ·subst c4;rw[if_pos rfl];by_cases c5:e3=0
      ·subst c5;(simp(disch:=first|decide|omega|(intros;exact aj rfl rfl)|simp only[aa]) only[aH,yJ,q0,q1,q2,t1,t2,t3,go_sem,seval,ai])
       try simp[trim]
      ·(simp(disch:=first|decide|omega|(intros;exact aj rfl rfl)|simp only[aa]) only[aH,yJ,q0,q1,q2,t1,t2,t3,c5,go_sem,seval,ai])
       try simp[trim,c5]
     ·rw[if_neg c4];by_cases c5:e2=0
      ·subst c5;by_cases c6:e4=0
       ·subst c6;(simp(disch:=first|decide|omega|(intros;exact aj rfl rfl)|simp only[aa]) only[aH,yJ,q0,q1,q2,t1,t2,t4,t5,go_sem,seval,ai])
        try simp[trim]
       ·(simp(disch:=first|decide|omega|(intros;exact aj rfl rfl)|simp only[aa]) only[aH,yJ,q0,q1,q2,t1,t2,t4,c6,go_sem,seval,ai])
        try simp[trim,c6]
      ·(simp(disch:=first|decide|omega|(intros;exact aj rfl rfl)|simp only[aa]) only[aH,yJ,q0,q1,q2,t1,t2,c4,c5,go_sem,seval,ai])
       try simp[trim,c4,c5]
    ·rw[if_pos c3];obtain⟨⟨f1,cp1,ar1,lf1,dn1⟩,e1⟩:=c;obtain⟨fy,cpy,ary,lfy,dny⟩:=y;obtain⟨fl,cp,ar,lf,dn⟩:=d;simp only[aR,Dsk.l] at q1 q2 t1 c3 ⊢;(simp(disch:=first|decide|omega|(intros;exact aj rfl rfl)|simp only[aa]) only[aH,yJ,q0,q1,q2,t1,c3,go_sem,seval,ai])
     try simp[trim,c3]
   ·rw[if_pos c2];obtain⟨⟨fx,cpx,arx,lfx,dnx⟩,ex⟩:=x;obtain⟨fl,cp,ar,lf,dn⟩:=d;simp only[aR,Dsk.l] at q1 q2 c2 ⊢;(simp(disch:=first|decide|omega|(intros;exact aj rfl rfl)|simp only[aa]) only[aH,yJ,q0,q1,q2,c2,go_sem,seval,ai])
    try simp[trim,c2]
  | false =>
   rw[if_neg (by simp)]
   rw[gi c1] at q1;clear q2 k1;have k1:=hd;obtain⟨y,hy⟩:∃ y,y=d:=⟨_,rfl⟩;have q2:True:=trivial;rw[<- hy] at k1;have hyd:oY tx d=oY tx y:=by rw[hy]
   rw[hyd];have t1:=fw y (k1.ok (by omega) (by omega)) [110]
   have k2:=fH (s:=(y,0)) k1 [110];have ec:bS [110] (y,0)=aA y (cN y.files [110]):=cA _ _;rw[ec] at k2;unfold oY;simp only[];generalize aA y (cN y.files [110])=c at *;by_cases c3:c.2=0
   ·rw[if_neg (by simp[c3])]
    have t2:=gH c.1 (k2.ok (by omega) (by omega)) [110] tx (by omega)
    have k3:=kR (s:=(c.1,0)) k2 [110] tx;have ea:lT [110] tx (c.1,0)=aA c.1 (dg c.1.files c.1.cap [110] tx):=cA _ _;rw[ea] at k3;generalize aA c.1 (dg c.1.files c.1.cap [110] tx)=p at *;have t3:=cG p.1 (k3.ok (by omega) (by omega)) [110]
    have t4:=fK p.1 (k3.ok (by omega) (by omega)) [110]
    have k4:=ky (s:=(p.1,0)) k3 [110];have es:gK [110] (p.1,0)=aA p.1 (di p.1.files [110]):=cA _ _;rw[es] at k4;generalize aA p.1 (b7 p.1.files [110])=r at *;generalize aA p.1 (di p.1.files [110])=w at *;have t5:=nu w.1 (k4.ok (by omega) (by omega)) [110] [109]
    generalize aA w.1 (jF w.1.files [110] [109])=v at *;obtain⟨⟨f1,cp1,ar1,lf1,dn1⟩,e1⟩:=c;obtain⟨⟨f2,cp2,ar2,lf2,dn2⟩,e2⟩:=p;obtain⟨⟨f3,cp3,ar3,lf3,dn3⟩,e3⟩:=r;obtain⟨⟨f4,cp4,ar4,lf4,dn4⟩,e4⟩:=w;obtain⟨⟨f5,cp5,ar5,lf5,dn5⟩,e5⟩:=v;subst hy;obtain⟨fl,cp,ar,lf,dn⟩:=y;simp only[aR,Dsk.l] at q1 t1 t2 t3 t4 t5 c3 ⊢;subst c3;by_cases c4:e2=9
    ·subst c4;rw[if_pos rfl];by_cases c5:e3=0
     ·subst c5;(simp(disch:=first|decide|omega|(intros;exact aj rfl rfl)|simp only[aa]) only[aH,yJ,q0,q1,t1,t2,t3,go_sem,seval,ai])
      try simp[trim]
     ·(simp(disch:=first|decide|omega|(intros;exact aj rfl rfl)|simp only[aa]) only[aH,yJ,q0,q1,t1,t2,t3,c5,go_sem,seval,ai])
      try simp[trim,c5]
    ·rw[if_neg c4];by_cases c5:e2=0
     ·subst c5;by_cases c6:e4=0
      ·subst c6;(simp(disch:=first|decide|omega|(intros;exact aj rfl rfl)|simp only[aa]) only[aH,yJ,q0,q1,t1,t2,t4,t5,go_sem,seval,ai])
       try simp[trim]
      ·(simp(disch:=first|decide|omega|(intros;exact aj rfl rfl)|simp only[aa]) only[aH,yJ,q0,q1,t1,t2,t4,c6,go_sem,seval,ai])
       try simp[trim,c6]
     ·(simp(disch:=first|decide|omega|(intros;exact aj rfl rfl)|simp only[aa]) only[aH,yJ,q0,q1,t1,t2,c4,c5,go_sem,seval,ai])
      try simp[trim,c4,c5]
   ·rw[if_pos c3];obtain⟨⟨f1,cp1,ar1,lf1,dn1⟩,e1⟩:=c;subst hy;obtain⟨fl,cp,ar,lf,dn⟩:=y;simp only[aR,Dsk.l] at q1 t1 c3 ⊢;(simp(disch:=first|decide|omega|(intros;exact aj rfl rfl)|simp only[aa]) only[aH,yJ,q0,q1,t1,c3,go_sem,seval,ai])
    try simp[trim,c3]
 ·rw[if_pos c0];obtain⟨fl,cp,ar,lf,dn⟩:=d;simp only[aR,Dsk.l] at ⊢;(simp(disch:=first|decide|omega|(intros;exact aj rfl rfl)|simp only[aa]) only[aH,yJ,q0,c0,go_sem,seval,ai])
  try simp[trim,c0]
theorem rH (s:Sto) (g:Seg) (hl:s.segs.length<=1000000) (hg:s.segs.getLast?=some g) (hb:0<=g.base∧g.base<=1099511627776):call 47 [.agg s.l] []=some (vs (fileN g.base),[]):=by
 have q:=dk hb;apply ah OR rfl;obtain⟨⟨fl,cp,ar,lf,dn⟩,ver,segs,next,sure,size,sum⟩:=s;simp only at hg hl;have h0:0<segs.length:=by cases segs <;> simp_all
 have h2:((segs.length:Int)-1).toNat=segs.length-1:=by omega
 have g1:(segs.map Seg.enc)[segs.length-1]?=some g.enc:=by rw[zG,<- List.getLast?_eq_getElem?,hg];rfl
 generalize fileN g.base=N at *;obtain⟨gb,gn,gz⟩:=g;simp only[Seg.enc] at g1 q;(simp(disch:=first|decide|omega|(intros;exact aj rfl rfl)|simp only[aa]) only[NT,Sto.l,Dsk.l,h2,g1,q,go_sem,seval,ai])
 try simp[trim]
theorem sV {k u:Nat} (s:Sto) (h:okS k u s) (hk:k<=800000) (hu:u<=800000000000):call 72 [.agg s.l] []=some (bh (dh s),[]):=by
 have q1:=rH s s.last (by have:=h.len;omega) (qQ h.len.1) (h.seg _ (kP h.len.1)).1
 have q3:=fK s.disk (h.dsk.ok (by omega) (by omega)) (fileN s.last.base)
 apply ah OJ rfl;unfold dh;simp only[];generalize aA s.disk (di s.disk.files (fileN s.last.base))=r at *;generalize fileN s.last.base=N at *;obtain⟨⟨fl,cp,ar,lf,dn⟩,ver,segs,next,sure,size,sum⟩:=s;obtain⟨⟨f2,cp2,ar2,lf2,dn2⟩,e2⟩:=r;simp only[Sto.l,Dsk.l,aR,List.cons_append,List.nil_append] at q1 q3 ⊢;by_cases c:e2=0
 ·subst c;(simp(disch:=first|decide|omega|(intros;exact aj rfl rfl)|simp only[aa]) only[aH,Nf,q1,q3,bh,Sto.l,Dsk.l,go_sem,seval,ai,bg,A.kind,A.xs,aG,A.isN])
  try simp[trim]
 ·(simp(disch:=first|decide|omega|(intros;exact aj rfl rfl)|simp only[aa]) only[aH,Nf,q1,q3,c,bh,Sto.l,Dsk.l,go_sem,seval,ai,bg,A.kind,A.xs,aG,A.isN])
  try simp[trim,c]
theorem Gg (d:Dsk):bD d=(let c:=aA d (cN d.files (fileN 0));if c.2≠0 then(⟨c.1,0,[],0,0,0,0⟩,c.2) else
  let w:=bX ⟨1,[0],0,0⟩ (c.1,0);if w.2≠0 then(⟨w.1,0,[],0,0,0,0⟩,w.2) else(⟨w.1,1,[⟨0,0,0⟩],0,0,0,0⟩,0)):=by
 unfold bD;have e0:bS (fileN 0) (d,0)=aA d (cN d.files (fileN 0)):=cA _ _;rw[e0];simp only[];generalize aA d (cN d.files (fileN 0))=c;by_cases h:c.2=0
 ·rw[if_pos h,if_neg (show ¬ (c.2≠0) from by simp[h]),<- iw h]
  generalize bX ⟨1,[0],0,0⟩ c=w;by_cases h2:w.2=0
  ·simp[h2]
  ·simp[h2]
 ·simp[h]
theorem sQ {k u:Nat} (d:Dsk) (hd:okN k u d) (hk:k<=800000) (hu:u<=800000000000):call 61 [.agg d.l] []=some (bh (bD d),[]):=by
 rw[Gg];have q1:=dk (n:=0) ⟨by decide,by decide⟩
 have q2:=fw d (hd.ok (by omega) (by omega)) (fileN 0)
 have k1:okN (k+1) u (aA d (cN d.files (fileN 0))).1:=by
  have:=fH (s:=(d,0)) hd (fileN 0);exact this
 have q3:=fun dd:Dsk=>ox ⟨dd,1,[⟨0,0,0⟩],0,0,0,0⟩ (by simp)
 simp only[];generalize aA d (cN d.files (fileN 0))=c at *;have q3:=q3 c.1;have q4:=mK c.1 k1 (by omega) (by omega) ⟨1,[0],0,0⟩ ⟨by simp,by simp⟩
 generalize bX ⟨1,[0],0,0⟩ (c.1,0)=w at *;apply ah Od rfl;generalize fileN 0=N at *;obtain⟨fl,cp,ar,lf,dn⟩:=d;obtain⟨⟨f1,cp1,ar1,lf1,dn1⟩,e1⟩:=c;obtain⟨⟨f3,cp3,ar3,lf3,dn3⟩,e3⟩:=w;simp only[aR,Dsk.l,Sto.l,Seg.enc,Sto.man,Man.l,List.cons_append,List.nil_append,List.map_cons,List.map_nil,eI] at q1 q2 q3 q4 ⊢;by_cases c1:e1=0
 ·subst c1;by_cases c3:e3=0
  ·subst c3;(simp(disch:=first|decide|omega|(intros;exact aj rfl rfl)|simp only[aa]) only[aH,Lq,q1,q2,↓cJ,kr,dE,lR,dj,q3,q4,go_sem,seval,ai,bg,A.kind,A.xs,aG,A.isN])
   try simp[trim,bh,Sto.l,Dsk.l,Seg.enc]
  ·(simp(disch:=first|decide|omega|(intros;exact aj rfl rfl)|simp only[aa]) only[aH,Lq,q1,q2,↓cJ,kr,dE,lR,dj,q3,q4,c3,go_sem,seval,ai,bg,A.kind,A.xs,aG,A.isN])
   try simp[trim,bh,Sto.l,Dsk.l,Seg.enc,c3]
 ·(simp(disch:=first|decide|omega|(intros;exact aj rfl rfl)|simp only[aa]) only[aH,Lq,q1,q2,c1,go_sem,seval,ai,bg,A.kind,A.xs,aG,A.isN])
  try simp[trim,bh,Sto.l,Dsk.l,Seg.enc,c1]
def yY (s:Sto):Dsk × Int :=
 let c:=aA s.disk (cN s.disk.files (fileN s.next))
 if c.2≠0 then c else
  let w:=bX (kf s).man (c.1,0)
  if w.2=9 then(let r:=aA w.1 (b7 w.1.files (fileN s.next));if r.2=0 then(r.1,9) else r) else w
theorem A5 (s:Sto):kD s=yY s:=by
 unfold kD yY;have e0:bS (fileN s.next) (s.disk,0)=aA s.disk (cN s.disk.files (fileN s.next)):=cA _ _;rw[e0];simp only[];generalize aA s.disk (cN s.disk.files (fileN s.next))=c;by_cases h:c.2=0
 ·rw[if_pos h,if_neg (show ¬ (c.2≠0) from by simp[h]),<- iw h]
  generalize bX (kf s).man c=w;unfold eD;have e1:cQ (fileN s.next) (w.1,0)=aA w.1 (b7 w.1.files (fileN s.next)):=cA _ _;rw[e1];by_cases h2:w.2=9
  ·simp[h2]
  ·simp[h2]
 ·simp[h]
theorem qH {k u:Nat} (s:Sto) (h:okS k u s) (hk:k<=800000) (hu:u<=800000000000):call 44 [.agg s.l] []=some (bh (dp s),[]):=by
 have q1:=sV s h hk hu;have h1:=qE h;have hsl:(dh s).1.segs=s.segs:=rfl;apply ah OF rfl;unfold dp;by_cases c0:64<=s.segs.length
 ·rw[if_pos c0];obtain⟨⟨fl,cp,ar,lf,dn⟩,ver,segs,next,sure,size,sum⟩:=s;simp only at c0;have c1:(64:Int)<=segs.length:=by omega
  (simp(disch:=first|decide|omega|(intros;exact aj rfl rfl)|simp only[aa]) only[aH,HO,c1,bh,Sto.l,Dsk.l,go_sem,seval,ai])
  try simp[trim]
 ·rw[if_neg c0];have c1:¬ (64:Int)<=s.segs.length:=by omega
  rw[<- hsl] at c1;generalize dh s=r at *;obtain⟨s1,e1⟩:=r;simp only at q1 h1 hsl c1 ⊢;by_cases c2:e1=0
  ·subst c2;rw[if_neg (by simp),A5]
   have q2:=dk h1.next;have q3:=fw s1.disk (h1.dsk.ok (by omega) (by omega)) (fileN s1.next)
   have k1:okN (k+1) u (aA s1.disk (cN s1.disk.files (fileN s1.next))).1:=by
    have:=fH (s:=(s1.disk,0)) h1.dsk (fileN s1.next);exact this
   have hxl:(kf s1).segs.length<=1000000:=by have:=h1.len;show(s1.segs++[_]).length<=_;simp;omega
   have q4:=fun d:Dsk=>ox { kf s1 with disk:=d } hxl
   unfold yY;simp only[];generalize aA s1.disk (cN s1.disk.files (fileN s1.next))=c at *;have q4:=q4 c.1;have q5:=mK c.1 k1 (by omega) (by omega) (kf s1).man ⟨by have:=h1.len;show((s1.segs++[_]).map _).length<=_;simp;omega,h1.sum⟩
   have k2:okN (k+1+1) (u+800) (bX (kf s1).man (c.1,0)).1:=jm (s:=(c.1,0)) k1 _;generalize bX (kf s1).man (c.1,0)=w at *;have q6:=cG w.1 (k2.ok (by omega) (by omega)) (fileN s1.next)
   generalize aA w.1 (b7 w.1.files (fileN s1.next))=t at *;generalize fileN s1.next=N at *;obtain⟨⟨fl,cp,ar,lf,dn⟩,ver,segs,next,sure,size,sum⟩:=s;obtain⟨⟨fl1,cp1,ar1,lf1,dn1⟩,ver1,segs1,next1,sure1,size1,sum1⟩:=s1;obtain⟨⟨fl2,cp2,ar2,lf2,dn2⟩,e2⟩:=c;obtain⟨⟨fl3,cp3,ar3,lf3,dn3⟩,e3⟩:=w;obtain⟨⟨fl4,cp4,ar4,lf4,dn4⟩,e4⟩:=t;simp only at hsl;subst hsl;have hver:=h1.ver;have hlen:=h1.len;simp only[aR,Dsk.l,Sto.l,Sto.man,kf,Man.l,bh,List.cons_append,List.nil_append,List.map_cons,List.map_nil,List.map_append,Seg.enc] at q1 q2 q3 q4 q5 q6 c1 hver hlen ⊢;have hok:aQ 3 (segs1.map Seg.enc)=true:=a8 Seg.len segs1;have hsm:(segs1.map Seg.enc).length=segs1.length:=by simp
   obtain⟨SQ,hSQ⟩:∃ SQ,segs1.map Seg.enc=SQ:=⟨_,rfl⟩;rw[hSQ] at hok hsm q1 q4 ⊢;have hsl2:SQ.length<=64:=by omega
   have htk:(SQ++[[D.i .i64 next1,D.i .i64 0,D.i .i64 0]]).take (segs1.length+1)=SQ++[[D.i .i64 next1,D.i .i64 0,D.i .i64 0]]:=zL (by simp;omega)
   have c1':¬ (64:Int)<=SQ.length:=by omega
   rw[<- hsm] at htk;by_cases c3:e2=0
   ·subst c3;by_cases c4:e3=9
    ·subst c4;by_cases c5:e4=0
     ·subst c5;(simp(disch:=first|decide|omega|(intros;exact aj rfl rfl)|simp only[aa]) only[aH,HO,q1,c1',hver,q2,q3,hok,htk,↓cJ,kr,dE,lR,dj,q4,q5,q6,go_sem,seval,ai,bg,A.kind,A.xs,aG,A.isN])
      try simp[trim,hSQ]
     ·(simp(disch:=first|decide|omega|(intros;exact aj rfl rfl)|simp only[aa]) only[aH,HO,q1,c1',hver,q2,q3,hok,htk,↓cJ,kr,dE,lR,dj,q4,q5,q6,c5,go_sem,seval,ai,bg,A.kind,A.xs,aG,A.isN])
      try simp[trim,hSQ,c5]
    ·by_cases c5:e3=0
     ·subst c5;(simp(disch:=first|decide|omega|(intros;exact aj rfl rfl)|simp only[aa]) only[aH,HO,q1,c1',hver,q2,q3,hok,htk,↓cJ,kr,dE,lR,dj,q4,q5,go_sem,seval,ai,bg,A.kind,A.xs,aG,A.isN])
      simp[trim,hSQ,Seg.enc,c4]
     ·(simp(disch:=first|decide|omega|(intros;exact aj rfl rfl)|simp only[aa]) only[aH,HO,q1,c1',hver,q2,q3,hok,htk,↓cJ,kr,dE,lR,dj,q4,q5,c4,c5,go_sem,seval,ai,bg,A.kind,A.xs,aG,A.isN])
      simp[trim,hSQ,c4,c5]
   ·(simp(disch:=first|decide|omega|(intros;exact aj rfl rfl)|simp only[aa]) only[aH,HO,q1,c1',hver,q2,q3,c3,go_sem,seval,ai,bg,A.kind,A.xs,aG,A.isN])
    simp[trim,hSQ,c3]
  ·rw[if_pos c2];obtain⟨⟨fl,cp,ar,lf,dn⟩,ver,segs,next,sure,size,sum⟩:=s;obtain⟨⟨fl1,cp1,ar1,lf1,dn1⟩,ver1,segs1,next1,sure1,size1,sum1⟩:=s1;simp only at hsl;subst hsl;simp only[Dsk.l,Sto.l,bh,List.cons_append,List.nil_append] at q1 c1 ⊢;(simp(disch:=first|decide|omega|(intros;exact aj rfl rfl)|simp only[aa]) only[aH,HO,q1,c1,c2,go_sem,seval,ai,bg,A.kind,A.xs,aG,A.isN])
   try simp[trim]
theorem CW {r:Rec} (h:whyF r≠0):(mi r).2≠0:=by unfold mi;rw[if_neg h];exact h
theorem nq {k u:Nat} (s t:Sto) (h:okS k u s) (ht:okS k u t) (hn:t.next<1099511627776) (hk:k<=800000) (hu:u<=800000000000) (seg:Int) (r:Rec) (tx:Txt) (hx:tx.length<=90)
  (q0:call 43 [.agg (r.enc.map .d)] []=some (vb true,[]))
  (q1:call 45 [.agg (r.enc.map .d)] []=some (.tup [(false,[zS tx]),(false,[zI 0])],[])) (c2:r.at_=s.next) (c3:s.next<1099511627776)
  (hc:(seg<=s.last.size∧dp s=(t,0))∨(¬ seg<=t.last.size∧t=s)) :
  call 21 [.agg s.l,vi seg,.agg (r.enc.map .d)] []=some (bh (mo t tx),[]):=by
 have q3:=qH s h hk hu;have q5:=rH t t.last (by have:=ht.len;omega) (qQ ht.len.1) (ht.seg _ (kP ht.len.1)).1
 have q7:=gH t.disk (ht.dsk.ok (by omega) (by omega)) (fileN t.last.base) tx (by omega)
 have hsz:=(ht.seg _ (kP ht.len.1)).2;have hlen:=ht.len;have hlens:=h.len;have hnx:=ht.next;have hsp:t.segs.map Seg.enc=t.segs.dropLast.map Seg.enc++[t.last.enc]:=by
  have hne:t.segs≠[]:=by intro e;rw[e] at hlen;simp at hlen
  have e:t.segs=t.segs.dropLast++[t.segs.getLast hne]:=(List.dropLast_concat_getLast hne).symm;have e2:t.last=t.segs.getLast hne:=by unfold Sto.last;rw[List.getLastD_eq_getLast?,List.getLast?_eq_some_getLast hne];rfl
  rw[e2];conv=>lhs;rw[e]
  rw[List.map_append];rfl
 have hsl:(s.segs.map Seg.enc)[s.segs.length-1]?=some s.last.enc:=by rw[zG,<- List.getLast?_eq_getElem?,qQ hlens.1];rfl
 have hok:=a8 Seg.len t.segs;have hQ:(t.segs.dropLast.map Seg.enc).length=t.segs.length-1:=by simp
 have hks:((s.segs.length:Int)-1)=((s.segs.length-1:Nat):Int):=by omega
 have hkt:((t.segs.length:Int)-1)=((t.segs.length-1:Nat):Int):=by omega
 unfold mo xI;simp only[];generalize aA t.disk (dg t.disk.files t.disk.cap (fileN t.last.base) tx)=d at *;generalize fileN t.last.base=N at *;generalize t.last=g at *;generalize s.last=g0 at *;generalize dp s=rr at *;obtain⟨b,n,z⟩:=g;obtain⟨b0,n0,z0⟩:=g0;obtain⟨⟨fl,cp,ar,lf,dn⟩,ver,segs,next,sure,size,sum⟩:=s;obtain⟨⟨fl1,cp1,ar1,lf1,dn1⟩,ver1,segs1,next1,sure1,size1,sum1⟩:=t;obtain⟨⟨fl2,cp2,ar2,lf2,dn2⟩,e2⟩:=d;obtain⟨at_,ti,da⟩:=r;simp only[Rec.enc,Seg.enc,List.map_cons,List.map_nil,Sto.l,Dsk.l,aR,List.cons_append,List.nil_append] at q0 q1 q3 q5 q7 c2 c3 hn hsz hlen hlens hnx hsp hsl hok hQ hks hkt hc ⊢;subst c2;have c3':¬ 1099511627776<=at_:=by omega
 have hfin:({ disk:=⟨fl2,cp2,ar2,lf2,dn2⟩,ver:=ver1,segs:=segs1.dropLast++[⟨b,n+1,z+tx.length⟩],next:=next1+1,sure:=sure1,size:=size1,sum:=sum1 }:Sto).segs.map Seg.enc=segs1.dropLast.map Seg.enc++[[D.i .i64 b,D.i .i64 (n+1),D.i .i64 (z+tx.length)]]:=by simp[Seg.enc]
 generalize segs1.dropLast.map Seg.enc=Q at *;have hml:(segs1.map Seg.enc).length=segs1.length:=by simp
 have hl1:segs1.length=Q.length+1:=by omega
 have hkt1:((Q.length+1:Nat):Int)-1=(Q.length:Nat):=by omega
 have hkt2:((Q.length:Nat):Int)+1-1=(Q.length:Nat):=by omega
 have hat:∀ x:List D,(Q++[x])[Q.length]?=some x:=fun x=>by simp
 have hst:∀ x y:List D,(Q++[x]).set Q.length y=Q++[y]:=fun x y=>by simp
 rw[hsp] at hok q5;have hql:Q.length<=64:=by omega
 have htk:∀ x:List D,(Q++[x]).take (Q.length+1)=Q++[x]:=fun x=>zL (by simp)
 apply ah KP rfl;rcases hc with⟨c4,rfl⟩|⟨c4,he⟩
 ·simp only[bh,Sto.l,Dsk.l,List.cons_append,List.nil_append] at q3;rw[hsp] at q3;by_cases c5:e2=0
  ·subst c5;(simp(disch:=first|decide|omega|(intros;exact aj rfl rfl)|simp only[aa]) only[aH,F7,q0,q1,c3',hks,hsl,c4,q3,q5,q7,hok,hkt1,hkt2,hat,hst,hql,htk,zA,List.length_cons,List.length_nil,Nat.zero_add,go_sem,seval,ai,bg,A.kind,A.xs,aG,A.isN])
   simp only[ne_eq,not_true_eq_false,if_false,bh,Sto.l,Dsk.l,List.cons_append,List.nil_append];simp only[] at hfin;rw[hfin]
  ·(simp(disch:=first|decide|omega|(intros;exact aj rfl rfl)|simp only[aa]) only[aH,F7,q0,q1,c3',hks,hsl,c4,q3,q5,q7,c5,go_sem,seval,ai,bg,A.kind,A.xs,aG,A.isN])
   simp[trim,c5,bh,Sto.l,Dsk.l,hsp]
 ·simp only[Sto.mk.injEq,Dsk.mk.injEq] at he;obtain⟨⟨rfl,rfl,rfl,rfl,rfl⟩,rfl,rfl,rfl,rfl,rfl,rfl⟩:=he;clear q3 hsl;rw[hsp];by_cases c5:e2=0
  ·subst c5;(simp(disch:=first|decide|omega|(intros;exact aj rfl rfl)|simp only[aa]) only[aH,F7,q0,q1,c3',c4,q5,q7,hok,hkt1,hkt2,hat,hst,hql,htk,zA,List.length_cons,List.length_nil,Nat.zero_add,go_sem,seval,ai,bg,A.kind,A.xs,aG,A.isN])
   simp only[ne_eq,not_true_eq_false,if_false,bh,Sto.l,Dsk.l,List.cons_append,List.nil_append];simp only[] at hfin;rw[hfin]
  ·(simp(disch:=first|decide|omega|(intros;exact aj rfl rfl)|simp only[aa]) only[aH,F7,q0,q1,c3',hkt1,hkt2,hat,c4,q5,q7,c5,zA,List.length_cons,List.length_nil,Nat.zero_add,go_sem,seval,ai,bg,A.kind,A.xs,aG,A.isN])
   simp[trim,c5,bh,Sto.l,Dsk.l,hsp]
theorem o8 {k u:Nat} (s:Sto) (h:okS k u s) (hk:k<=700000) (hu:u<=700000000000) (seg:Int) (r:Rec) (hr:r.ok):call 21 [.agg s.l,vi seg,.agg (r.enc.map .d)] []=some (bh (lQ s seg r),[]):=by
 have q1:=sd r hr;have hpl:=vK r;have e1:putR r=.tup [(false,[.d (.s (mi r).1)]),(false,[.d (.i .i64 (mi r).2)])]:=by unfold putR mi;split <;> rfl
 rw[e1] at q1;unfold lQ;by_cases c1:whyF r=0
 ·have c1':(mi r).2=0:=by unfold mi;rw[if_pos c1]
  rw[c1'] at q1;have q0':=lW r;rw[zT c1] at q0';by_cases c2:r.at_=s.next
  ·rw[if_neg (by simp[c2,c1'])]
   by_cases c3:1099511627776<=s.next
   ·rw[if_pos c3];obtain⟨⟨fl,cp,ar,lf,dn⟩,ver,segs,next,sure,size,sum⟩:=s;obtain⟨at_,ti,da⟩:=r;simp only[Rec.enc,List.map_cons,List.map_nil] at q0' c2 c3 ⊢;subst c2;apply ah KP rfl;(simp(disch:=first|decide|omega|(intros;exact aj rfl rfl)|simp only[aa]) only[aH,F7,q0',c3,bh,Sto.l,Dsk.l,go_sem,seval,ai])
    try simp[trim]
   ·rw[if_neg c3];by_cases c4:seg<=s.last.size
    ·rw[if_pos c4];by_cases c5:(dp s).2=0
     ·rw[if_neg (by simp[c5])]
      have hn:(dp s).1.next=s.next:=xo s;exact nq (k:=k+2) (u:=u+800) s (dp s).1 (h.up (by omega) (by omega)) (rI h) (by rw[hn];omega) (by omega) (by omega) seg r (mi r).1 hpl q0' q1 c2 (by omega) (.inl ⟨c4,by rw[<- c5]⟩)
     ·rw[if_pos c5];have q3:=qH s h (by omega) (by omega)
      have hsl:(s.segs.map Seg.enc)[s.segs.length-1]?=some s.last.enc:=by rw[zG,<- List.getLast?_eq_getElem?,qQ h.len.1];rfl
      have hlens:=h.len;have hks:((s.segs.length:Int)-1)=((s.segs.length-1:Nat):Int):=by omega
      generalize dp s=t at *;generalize s.last=g at *;obtain⟨b,n,z⟩:=g;obtain⟨⟨fl,cp,ar,lf,dn⟩,ver,segs,next,sure,size,sum⟩:=s;obtain⟨⟨⟨fl1,cp1,ar1,lf1,dn1⟩,ver1,segs1,next1,sure1,size1,sum1⟩,e⟩:=t;obtain⟨at_,ti,da⟩:=r;simp only[Rec.enc,Seg.enc,List.map_cons,List.map_nil,Sto.l,Dsk.l,bh,List.cons_append,List.nil_append] at q0' q3 c2 c3 c4 c5 hsl hks hlens ⊢;subst c2;apply ah KP rfl;(simp(disch:=first|decide|omega|(intros;exact aj rfl rfl)|simp only[aa]) only[aH,F7,q0',c3,hks,hsl,c4,q3,c5,go_sem,seval,ai])
      try simp[trim,c5]
    ·rw[if_neg c4];exact nq (k:=k) (u:=u) s s h h (by omega) (by omega) (by omega) seg r (mi r).1 hpl q0' q1 c2 (by omega) (.inr ⟨c4,rfl⟩)
  ·rw[if_pos (.inr c2)];obtain⟨⟨fl,cp,ar,lf,dn⟩,ver,segs,next,sure,size,sum⟩:=s;obtain⟨at_,ti,da⟩:=r;simp only[Rec.enc,List.map_cons,List.map_nil] at q0' c2 ⊢;apply ah KP rfl;(simp(disch:=first|decide|omega|(intros;exact aj rfl rfl)|simp only[aa]) only[aH,F7,q0',c2,bh,Sto.l,Dsk.l,go_sem,seval,ai])
   try simp[trim]
 ·rw[if_pos (.inl (CW c1))];have q0':=lW r;rw[zF c1] at q0';obtain⟨⟨fl,cp,ar,lf,dn⟩,ver,segs,next,sure,size,sum⟩:=s;obtain⟨at_,ti,da⟩:=r;simp only[Rec.enc,List.map_cons,List.map_nil] at q0' ⊢;apply ah KP rfl;(simp(disch:=first|decide|omega|(intros;exact aj rfl rfl)|simp only[aa]) only[aH,F7,q0',bh,Sto.l,Dsk.l,go_sem,seval,ai])
  try simp[trim]
theorem zj (n:Int):(n != n)=false:=by simp
theorem vy (n:Bool):(n != n)=false:=by simp
theorem wG (d:Dsk) (hl:d.files.length<=1000000):call 37 [.agg d.l,.agg d.l] []=some (vb true,[]):=by
 apply ah OD rfl;obtain⟨fl,cp,ar,lf,dn⟩:=d;simp only at hl;(simp(disch:=first|decide|omega|(intros;exact aj rfl rfl)|simp only[aa]) only[aH,NN,Dsk.l,zj,vy,go_sem,seval,ai])
 refine aE (m:=0) (σ:=Nat) (fun i=>fl.length-i) (fun i=>i<=fl.length) (fun i=>[V.one (.p 0 0),V.one (.p 1 0),vi i])
  (fun _=>[.cells [.d (.l (fl.map Fil.enc)),zI cp,zB ar,zI lf,zB dn],.cells [.d (.l (fl.map Fil.enc)),zI cp,zB ar,zI lf,zB dn]]) (fun _=>(vb true,[])) ?_ 0 (zP _) _ _ ?_
 rotate_left
 ·exact bv
 intro i hi R hR;by_cases c:i<fl.length
 ·have ci:(i:Int)<(fl.length:Int):=by omega
  have g1:(fl.map Fil.enc)[i]?=some fl[i].enc:=by simp[c]
  have hq:=Fil.eqs fl[i] fl[i];rw[zT rfl] at hq;generalize fl[i]=f at *;obtain⟨fn,fd,fs⟩:=f;simp only[Fil.enc,List.map_cons,List.map_nil] at g1 hq;(simp(disch:=first|decide|omega|(intros;exact aj rfl rfl)|simp only[aa]) only[aH,EX,ci,g1,hq,go_sem,seval,ai])
  exact hR (i+1) (by omega) (by omega) _ _ bv
 ·have ci:¬ (i:Int)<(fl.length:Int):=by omega
  (simp(disch:=first|decide|omega|(intros;exact aj rfl rfl)|simp only[aa]) only[aH,EX,ci,go_sem,seval,ai])
  try simp[trim]
theorem vL (s:Sto) (hf:s.disk.files.length<=1000000) (hl:s.segs.length<=1000000):call 12 [.agg s.l,.agg s.l] []=some (vb true,[]):=by
 have q:=wG s.disk hf;apply ah Ob rfl;obtain⟨⟨fl,cp,ar,lf,dn⟩,ver,segs,next,sure,size,sum⟩:=s;simp only[Dsk.l] at hl q;(simp(disch:=first|decide|omega|(intros;exact aj rfl rfl)|simp only[aa]) only[aH,NQ,Sto.l,Dsk.l,q,zj,vy,go_sem,seval,ai])
 refine aE (m:=0) (σ:=Nat) (fun i=>segs.length-i) (fun i=>i<=segs.length) (fun i=>[V.one (.p 0 0),V.one (.p 1 0),vi i])
  (fun _=>[.cells [.d (.l (fl.map Fil.enc)),zI cp,zB ar,zI lf,zB dn,zI ver,.d (.l (segs.map Seg.enc)),zI next,zI sure,zI size,zW sum],.cells [.d (.l (fl.map Fil.enc)),zI cp,zB ar,zI lf,zB dn,zI ver,.d (.l (segs.map Seg.enc)),zI next,zI sure,zI size,zW sum]]) (fun _=>(vb true,[])) ?_ 0 (zP _) _ _ ?_
 rotate_left
 ·exact bv
 intro i hi R hR;by_cases c:i<segs.length
 ·have ci:(i:Int)<(segs.length:Int):=by omega
  have g1:(segs.map Seg.enc)[i]?=some segs[i].enc:=by simp[c]
  have hq:=Seg.eqs segs[i] segs[i];rw[zT rfl] at hq;generalize segs[i]=f at *;obtain⟨fb,fn,fs⟩:=f;simp only[Seg.enc,List.map_cons,List.map_nil] at g1 hq;(simp(disch:=first|decide|omega|(intros;exact aj rfl rfl)|simp only[aa]) only[aH,Ea,ci,g1,hq,go_sem,seval,ai])
  exact hR (i+1) (by omega) (by omega) _ _ bv
 ·have ci:¬ (i:Int)<(segs.length:Int):=by omega
  (simp(disch:=first|decide|omega|(intros;exact aj rfl rfl)|simp only[aa]) only[aH,Ea,ci,go_sem,seval,ai])
  try simp[trim]
theorem kY (s:Sto):call 15 [.agg s.l] []=some (vi s.floor,[]):=by
 apply ah OC rfl;obtain⟨⟨fl,cp,ar,lf,dn⟩,ver,segs,next,sure,size,sum⟩:=s;unfold Sto.floor;cases segs with
 | nil=>(simp(disch:=first|decide|omega|(intros;exact aj rfl rfl)|simp only[aa]) only[Mk,Sto.l,Dsk.l,go_sem,seval,ai])
 | cons g r =>
  (simp(disch:=first|decide|omega|(intros;exact aj rfl rfl)|simp only[aa]) only[Mk,Sto.l,Dsk.l,Seg.len,Seg.at0,go_sem,seval,ai])
  try simp[trim]
theorem Cu {k u:Nat} (s:Sto) (h:okS k u s) (hk:k<=800000) (hu:u<=1000000) (g:Seg) (hg:g∈s.segs):call 39 [.agg s.l,.agg (g.enc.map .d)] []=some (vl ((cP (s.txt g) g.base).1.map fun x=>x.1.enc),[]):=by
 have hb:=(h.seg _ hg).1;have q1:=dk hb;have q2:=fE s.disk (Nat.le_trans h.dsk.len (by omega)) h.dsk.srt (fileN g.base)
 have hl:(s.txt g).length<=1000000:=Nat.le_trans (bP _ _) (Nat.le_trans h.dsk.used hu);have q3:=nh (s.txt g) hl g.base (by omega)
 have e2:(aB s.disk.files (fileN g.base)).1=s.txt g:=rfl;rw[e2] at q2;unfold gp at q3;generalize (cP (s.txt g) g.base)=sc at *;generalize s.txt g=T at *;generalize (aB s.disk.files (fileN g.base)).2=re at *;generalize fileN g.base=N at *;obtain⟨b,n,z⟩:=g;obtain⟨⟨fl,cp,ar,lf,dn⟩,ver,segs,next,sure,size,sum⟩:=s;simp only[Seg.enc,List.map_cons,List.map_nil,Sto.l,Dsk.l,List.cons_append,List.nil_append] at q1 q2 q3 ⊢;apply ah Pj rfl;(simp(disch:=first|decide|omega|(intros;exact aj rfl rfl)|simp only[aa]) only[aH,Nq,q1,q2,q3,go_sem,seval,ai])
 try simp[trim]
def iH (R:List Rec) (off:Int):V:=match R.find? (fun r=>decide (r.at_=off)) with
 | some r=>.tup [(true,r.enc.map .d),(false,[.d (.i .i64 0)])]
 | none=>.tup [(true,[.d (.i .i64 0),.d (.i .i64 0),.d (.s [])]),(false,[.d (.i .i64 11)])]
theorem FC {r:Rec} {R:List Rec} {off:Int} (h:r.at_≠off):iH (r::R) off=iH R off:=by
 unfold iH;rw[List.find?_cons_of_neg (by simpa using h)]
theorem Db {r:Rec} {R:List Rec} {off:Int} (h:r.at_=off):iH (r::R) off=.tup [(true,r.enc.map .d),(false,[zI 0])]:=by
 unfold iH;rw[List.find?_cons_of_pos (by simpa using h)]
theorem AN (N:List SR) (i:Nat) (h:i<N.length):iM (N.drop i)=N[i].2++iM (N.drop (i+1)):=by
 rw[zD h];rfl
def fI (f:Seg->Int):List Seg->Int
 | []=>0
 | g::r=>f g+fI f r
theorem G3 (f:Seg->Int) (a b:List Seg):fI f (a++b)=fI f a+fI f b:=by
 induction a with
 | nil=>simp[fI]
 | cons x r ih=>simp only[List.cons_append,fI,ih];omega
theorem wY (f:Seg->Int) (l:List Seg) (i:Nat) (h:i<l.length):fI f (l.take (i+1))=fI f (l.take i)+f l[i]:=by
 rw[zO h,G3];simp[fI]
theorem CM (f:Seg->Int) (u:Nat):∀ (l:List Seg),(∀ g∈l,0<=f g∧f g<=u)->0<=fI f l∧fI f l<=l.length*u
 | [],_=>by simp[fI]
 | x::r,h=>by
  have h1:=h x (by simp)
  have h2:=CM f u r (fun g hg=>h g (by simp[hg]))
  simp only[fI,List.length_cons];rw[Int.natCast_add,Int.add_mul];omega
theorem Co (f:Seg->Int) (l:List Seg) (hl:l.length<=1000) (h:∀ g∈l,0<=f g∧f g<=(1000000000000:Nat)) (i:Nat):0<=fI f (l.take i)∧fI f (l.take i)<=1000000000000000:=by
 have:=CM f 1000000000000 (l.take i) (fun g hg=>h g (zZ hg))
 have h2:(l.take i).length<=1000:=Nat.le_trans (List.length_take_le' _ _) hl;have h3:((l.take i).length:Int)*((1000000000000:Nat):Int)<=1000*1000000000000:=by omega
 omega
theorem wD (l:List Seg) (hl:l.length<=1000) (h:∀ g∈l,0<=g.size∧g.size<=(1000000000000:Nat)):call 146 [vl (l.map Seg.enc)] []=some (vi (fI Seg.size l),[]):=by
 apply ah LT rfl;(simp(disch:=first|decide|omega|(intros;exact aj rfl rfl)|simp only[aa]) only[I3,go_sem,seval,ai])
 refine aE (m:=0) (σ:=Nat) (fun i=>l.length-i) (fun i=>i<=l.length) (fun i=>[vl (l.map Seg.enc),vi (fI Seg.size (l.take i)),vi i]) (fun _=>[])
  (fun _=>(vi (fI Seg.size l),[])) ?_ 0 (zP _) _ _ bv
 intro i h1 R hR;have hb:=Co Seg.size l hl h i;by_cases hi:i<l.length
 ·have g1:(l.map Seg.enc)[i]?=some l[i].enc:=by rw[zG,zE hi];rfl
  have hR':=hR (i+1) (by omega) (by omega)
  rw[wY _ l i hi] at hR';have hg:=h l[i] (zN hi);obtain⟨p,hp⟩:∃ p,p=l[i]:=⟨_,rfl⟩;rw[<- hp] at g1 hR' hg;generalize fI Seg.size (l.take i)=x at *;(simp(disch:=first|decide|omega|(intros;exact aj rfl rfl)|simp only[aa]) only[xq,g1,Seg.enc,go_sem,seval,ai])
  exact hR' _ _ bv
 ·have ht:l.take i=l:=zL (by omega)
  rw[ht];(simp(disch:=first|decide|omega|(intros;exact aj rfl rfl)|simp only[aa]) only[xq,I3,go_sem,seval,ai])
  try simp[trim]
theorem sr (l:List Seg) (hl:l.length<=1000) (h:∀ g∈l,0<=g.n∧g.n<=(1000000000000:Nat)):call 147 [vl (l.map Seg.enc)] []=some (vi (fI Seg.n l),[]):=by
 apply ah MI rfl;(simp(disch:=first|decide|omega|(intros;exact aj rfl rfl)|simp only[aa]) only[Ih,go_sem,seval,ai])
 refine aE (m:=0) (σ:=Nat) (fun i=>l.length-i) (fun i=>i<=l.length) (fun i=>[vl (l.map Seg.enc),vi (fI Seg.n (l.take i)),vi i]) (fun _=>[])
  (fun _=>(vi (fI Seg.n l),[])) ?_ 0 (zP _) _ _ bv
 intro i h1 R hR;have hb:=Co Seg.n l hl h i;by_cases hi:i<l.length
 ·have g1:(l.map Seg.enc)[i]?=some l[i].enc:=by rw[zG,zE hi];rfl
  have hR':=hR (i+1) (by omega) (by omega)
  rw[wY _ l i hi] at hR';have hg:=h l[i] (zN hi);obtain⟨p,hp⟩:∃ p,p=l[i]:=⟨_,rfl⟩;rw[<- hp] at g1 hR' hg;generalize fI Seg.n (l.take i)=x at *;(simp(disch:=first|decide|omega|(intros;exact aj rfl rfl)|simp only[aa]) only[za,g1,Seg.enc,go_sem,seval,ai])
  exact hR' _ _ bv
 ·have ht:l.take i=l:=zL (by omega)
  rw[ht];(simp(disch:=first|decide|omega|(intros;exact aj rfl rfl)|simp only[aa]) only[za,Ih,go_sem,seval,ai])
  try simp[trim]
def nr (l:List Seg) (keep count:Int):Bool:=decide (1<l.length) && (decide (keep<fI Seg.size (l.take (l.length-1))) || decide (count<fI Seg.n l))
def segsB (l:List Seg):Prop:=l.length<=1000∧∀ g∈l,(0<=g.n∧g.n<=(1000000000000:Nat))∧(0<=g.size∧g.size<=(1000000000000:Nat))
theorem segsB.take {l:List Seg} (h:segsB l) (k:Nat):segsB (l.take k):=⟨Nat.le_trans (List.length_take_le' _ _) h.1,fun g hg=>h.2 g (zZ hg)⟩
theorem segsB.drop {l:List Seg} (h:segsB l) (k:Nat):segsB (l.drop k):=⟨Nat.le_trans (by simp) h.1,fun g hg=>h.2 g (List.mem_of_mem_drop hg)⟩
theorem Bb (l:List Seg) (h:segsB l) (keep count:Int):call 139 [vl (l.map Seg.enc),vi keep,vi count] []=some (vb (nr l keep count),[]):=by
 apply ah MJ rfl;have hlen:=h.1;by_cases c1:(1:Int)<(l.length:Int)
 ·have h1:=wD (l.take (l.length-1)) (h.take _).1 (fun g hg=>((h.take _).2 g hg).2)
  have h2:=sr l h.1 (fun g hg=>(h.2 g hg).1)
  have ek:((l.length:Int)-1).toNat=l.length-1:=by omega
  have el:List.take (l.length-1) (l.map Seg.enc)=(l.take (l.length-1)).map Seg.enc:=by rw[List.map_take]
  have hok:aQ 3 (l.map Seg.enc)=true:=a8 Seg.len _;by_cases c2:keep<fI Seg.size (l.take (l.length-1))
  ·have e:nr l keep count=true:=by simp[nr,c2];omega
   rw[e];(simp(disch:=first|decide|omega|(intros;exact aj rfl rfl)|simp only[aa]) only[GY,zT c1,ek,el,hok,h1,zT c2,go_sem,seval,ai])
   try simp[trim]
  ·have e:nr l keep count=decide (count<fI Seg.n l):=by simp[nr,c2];omega
   rw[e];(simp(disch:=first|decide|omega|(intros;exact aj rfl rfl)|simp only[aa]) only[GY,zT c1,ek,el,hok,h1,h2,zF c2,go_sem,seval,ai])
   try simp[trim]
 ·have e:nr l keep count=false:=by simp[nr];omega
  rw[e];(simp(disch:=first|decide|omega|(intros;exact aj rfl rfl)|simp only[aa]) only[GY,zF c1,go_sem,seval,ai])
  try simp[trim]
def pf (l:List Seg) (keep count:Int) (k:Nat):Bool := !nr (l.drop k) keep count
def ik (l:List Seg) (keep count:Int):Nat:=match (List.range l.length).find? (pf l keep count) with|some k=>k|none=>0
theorem vF (l:List Seg) (keep count:Int) (h:ik l keep count≠0):ik l keep count<l.length:=by
 unfold ik at *;cases hf:(List.range l.length).find? (pf l keep count) with
 | none=>rw[hf] at h;exact absurd rfl h
 | some k=>simpa using List.mem_of_find?_eq_some hf
theorem Bz (l:List Seg) (h:segsB l) (keep count:Int):call 116 [vl (l.map Seg.enc),vi keep,vi count] []=some (vi (ik l keep count:Nat),[]):=by
 apply ah LV rfl;have hlen:=h.1;have hok:aQ 3 (l.map Seg.enc)=true:=a8 Seg.len _;(simp(disch:=first|decide|omega|(intros;exact aj rfl rfl)|simp only[aa]) only[Ib,go_sem,seval,ai])
 refine aE (m:=0) (σ:=Nat) (fun i=>l.length-i) (fun i=>i<=l.length∧(List.range l.length).find? (pf l keep count)=((List.range l.length).drop i).find? (pf l keep count)) (fun i=>[vl (l.map Seg.enc),vi keep,vi count,vi i]) (fun _=>[])
  (fun _=>(vi (ik l keep count:Nat),[])) ?_ 0 ⟨zP _,rfl⟩ _ _ bv
 intro i ⟨h1,h2⟩ R hR;by_cases hi:i<l.length
 ·rw[zD (by simpa using hi),List.find?_cons,List.getElem_range] at h2
  have hm:=Bb (l.drop i) (h.drop i) keep count;have hd:List.drop i (l.map Seg.enc)=(l.drop i).map Seg.enc:=by rw[List.map_drop]
  have htk:List.take l.length (l.map Seg.enc)=l.map Seg.enc:=zL (by simp)
  cases hq:nr (l.drop i) keep count with
  | true =>
   have hs:pf l keep count i=false:=by simp[pf,hq]
   rw[hs] at h2;rw[hq] at hm;(simp(disch:=first|decide|omega|(intros;exact aj rfl rfl)|simp only[aa]) only[uR,hok,htk,hd,hm,go_sem,seval,ai])
   exact hR (i+1) (by omega) ⟨by omega,h2⟩ _ _ bv
  | false =>
   have hs:pf l keep count i=true:=by simp[pf,hq]
   rw[hs] at h2;have e:ik l keep count=i:=by unfold ik;rw[h2]
   rw[hq] at hm;rw[e];(simp(disch:=first|decide|omega|(intros;exact aj rfl rfl)|simp only[aa]) only[uR,hok,htk,hd,hm,go_sem,seval,ai])
   try simp[trim]
 ·rw[zC (by simpa using Nat.not_lt.1 hi)] at h2
  have e:ik l keep count=0:=by unfold ik;rw[h2];rfl
  rw[e];(simp(disch:=first|decide|omega|(intros;exact aj rfl rfl)|simp only[aa]) only[uR,Ib,go_sem,seval,ai])
  try simp[trim]
def Sto.scans (s:Sto):List SR:=s.segs.map fun g=>(g,(cP (s.txt g) g.base).1.map (·.1))
theorem AM {k u:Nat} {s:Sto} (h:okS k u s) (hu:u<=1000000):∀ p∈s.scans,p.2.length<=1000000:=by
 intro p hp;simp only[Sto.scans,List.mem_map] at hp;obtain⟨g,hg,rfl⟩:=hp;rw[zM];exact Nat.le_trans (jE _ _) (Nat.le_trans (bP _ _) (Nat.le_trans h.dsk.used hu))
def nk (s:Sto) (off:Int):V:=if off<0∨s.next<=off then .tup [(true,[zI 0,zI 0,.d (.s [])]),(false,[zI 6])] else iH (iM s.scans) off
theorem Bo {k u:Nat} (s:Sto) (h:okS k u s) (hk:k<=800000) (hu:u<=1000000) (off:Int):call 16 [.agg s.l,vi off] []=some (nk s off,[]):=by
 have hall:=fun g hg=>Cu s h hk hu g hg
 have n1:s.segs=s.scans.map (·.1):=by rw[Sto.scans,List.map_map];exact(List.map_id s.segs).symm
 have n3:∀ p∈s.scans,((cP (s.txt p.1) p.1.base).1.map fun x=>x.1.enc)=p.2.map Rec.enc:=by
  intro p hp;simp only[Sto.scans,List.mem_map] at hp;obtain⟨g,hg,rfl⟩:=hp;simp
 have hlen:=h.len;have hcell:s.l=[.d (.l (s.disk.files.map Fil.enc)),zI s.disk.cap,zB s.disk.armed,zI s.disk.left,zB s.disk.down,zI s.ver,.d (.l (s.segs.map Seg.enc)),zI s.next,zI s.sure,zI s.size,zW s.sum]:=rfl;apply ah On rfl;rw[hcell] at hall ⊢;by_cases c1:off<0
 ·have e:nk s off=.tup [(true,[zI 0,zI 0,.d (.s [])]),(false,[zI 6])]:=by unfold nk;rw[if_pos (.inl c1)]
  rw[e];(simp(disch:=first|decide|omega|(intros;exact aj rfl rfl)|simp only[aa]) only[aH,LA,c1,go_sem,seval,ai])
  try simp[trim]
 ·by_cases c2:s.next<=off
  ·have e:nk s off=.tup [(true,[zI 0,zI 0,.d (.s [])]),(false,[zI 6])]:=by unfold nk;rw[if_pos (.inr c2)]
   rw[e];(simp(disch:=first|decide|omega|(intros;exact aj rfl rfl)|simp only[aa]) only[aH,LA,c1,c2,go_sem,seval,ai])
   try simp[trim]
  ·have e:nk s off=iH (iM s.scans) off:=by unfold nk;rw[if_neg (by omega)]
   rw[e];obtain⟨R,n2⟩:∃ R,iM s.scans=R:=⟨_,rfl⟩;rw[n2];have hsc:=AM h hu;obtain⟨N,hN⟩:∃ N,N=s.scans:=⟨_,rfl⟩;rw[<- hN] at n1 n2 n3 hsc;obtain⟨Z,hZ⟩:∃ Z:V,Z=iH R off:=⟨_,rfl⟩;rw[<- hZ];(simp(disch:=first|decide|omega|(intros;exact aj rfl rfl)|simp only[aa]) only[aH,LA,c1,c2,go_sem,seval,ai])
   have hNl:N.length=s.segs.length:=by rw[n1];simp
   refine aE (m:=0) (σ:=Nat) (fun i=>N.length-i) (fun i=>i<=N.length∧iH R off=iH (iM (N.drop i)) off) (fun i=>[vi off,V.one (.p 0 0),V.one (.p 1 0),vi i])
    (fun _=>[.cells [.d (.l (s.disk.files.map Fil.enc)),zI s.disk.cap,zB s.disk.armed,zI s.disk.left,zB s.disk.down,zI s.ver,.d (.l (s.segs.map Seg.enc)),zI s.next,zI s.sure,zI s.size,zW s.sum],.cells [zI 0,zI 0,.d (.s [])]]) (fun _=>(Z,[])) ?_ 0 ⟨zP _,by rw[List.drop_zero,n2]⟩ _ _ ?_
   rotate_left
   ·exact bv
   rintro i ⟨hi,hinv⟩ K hK;by_cases c3:i<N.length
   ·have ci:(i:Int)<(s.segs.length:Int):=by omega
    have hsi:s.segs[i]?=some N[i].1:=by rw[n1];simp[c3]
    have hmem:N[i].1∈s.segs:=List.mem_of_getElem? hsi;have g1:(s.segs.map Seg.enc)[i]?=some N[i].1.enc:=by rw[zG,hsi];rfl
    have g2:=hall _ hmem;rw[n3 _ (zN c3)] at g2;rw[AN N i c3] at hinv;have hpl:N[i].2.length<=1000000:=hsc _ (zN c3);generalize N[i]=p at *;obtain⟨⟨pb,pn,pz⟩,pl⟩:=p;simp only[Seg.enc,List.map_cons,List.map_nil] at g1 g2 hinv hpl;(simp(disch:=first|decide|omega|(intros;exact aj rfl rfl)|simp only[aa]) only[aH,Ei,ci,g1,g2,go_sem,seval,ai])
    refine aE (m:=0) (σ:=Nat) (fun j=>pl.length-j) (fun j=>j<=pl.length∧iH R off=iH (pl.drop j++iM (N.drop (i+1))) off) (fun j=>[vi off,V.one (.p 0 0),V.one (.p 1 0),vi i,vl (pl.map Rec.enc),vi j])
     (fun _=>[.cells [.d (.l (s.disk.files.map Fil.enc)),zI s.disk.cap,zB s.disk.armed,zI s.disk.left,zB s.disk.down,zI s.ver,.d (.l (s.segs.map Seg.enc)),zI s.next,zI s.sure,zI s.size,zW s.sum],.cells [zI 0,zI 0,.d (.s [])]]) (fun _=>(Z,[])) ?_ 0 ⟨zP _,hinv⟩ _ _ ?_
    rotate_left
    ·exact bv
    rintro j ⟨hj,hinv2⟩ K2 hK2;by_cases c4:j<pl.length
    ·have cj:(j:Int)<(pl.length:Int):=by omega
     have g3:(pl.map Rec.enc)[j]?=some pl[j].enc:=by simp[c4]
     rw[zD c4,List.cons_append] at hinv2;generalize pl[j]=r at *;by_cases c5:r.at_=off
     ·rw[Db c5] at hinv2;rw[hinv2] at hZ;obtain⟨ra,rt,rd⟩:=r;simp only[Rec.enc,List.map_cons,List.map_nil] at g3 c5 hZ;(simp(disch:=first|decide|omega|(intros;exact aj rfl rfl)|simp only[aa]) only[aH,wR,cj,g3,c5,go_sem,seval,ai])
      rw[hZ];try simp[trim,c5]
     ·rw[FC c5] at hinv2;obtain⟨ra,rt,rd⟩:=r;simp only[Rec.enc,List.map_cons,List.map_nil] at g3 c5;(simp(disch:=first|decide|omega|(intros;exact aj rfl rfl)|simp only[aa]) only[aH,wR,cj,g3,c5,go_sem,seval,ai])
      exact hK2 (j+1) (by omega) ⟨by omega,hinv2⟩ _ _ bv
    ·have cj:¬ (j:Int)<(pl.length:Int):=by omega
     rw[List.drop_of_length_le (by omega),List.nil_append] at hinv2
     (simp(disch:=first|decide|omega|(intros;exact aj rfl rfl)|simp only[aa]) only[aH,wR,cj,go_sem,seval,ai])
     exact hK (i+1) (by omega) ⟨by omega,hinv2⟩ _ _ bv
   ·have ci:¬ (i:Int)<(s.segs.length:Int):=by omega
    rw[List.drop_of_length_le (by omega)] at hinv
    have e:iH (iM []) off=.tup [(true,[zI 0,zI 0,.d (.s [])]),(false,[zI 11])]:=rfl;rw[e] at hinv;rw[hinv] at hZ;(simp(disch:=first|decide|omega|(intros;exact aj rfl rfl)|simp only[aa]) only[aH,Ei,ci,go_sem,seval,ai])
    rw[hZ];try simp[trim]
def aV (n:Int):Txt:=nz 116 n.toNat
theorem DE {n:Int} (h:0<=n∧n<=1099511627776):call 105 [vi n] []=some (vs (aV n),[]):=by
 apply ah MB rfl;have h1:=sJ 116 n.toNat (by omega)
 have e:(((116:UInt8).toNat:Nat):Int)=116:=rfl;have e2:((n.toNat:Nat):Int)=n:=by omega
 rw[e,e2] at h1;have e3:aV n=nz 116 n.toNat:=rfl;rw[e3];(simp(disch:=first|decide|omega|(intros;exact aj rfl rfl)|simp only[aa]) only[Kq,h1,go_sem,seval,ai])
 try simp[trim]
theorem lI {n:Int} (h:0<=n∧n<=1099511627776):call 30 [vi n] []=some (vs (aV n),[]):=by
 have h1:=o7 n.toNat (by omega)
 have e:((n.toNat:Nat):Int)=n:=by omega
 rw[e] at h1;have e2:aV n=116::fe n.toNat 13:=by
  unfold aV nz fe;congr 1
 have hl:(fe n.toNat 13).length=13:=by simp[fe]
 rw[e2];generalize fe n.toNat 13=T at *;have c1:¬ n<0:=by omega
 have c2:¬ (1099511627776:Int)<n:=by omega
 apply ah O2 rfl;(simp(disch:=first|decide|omega|(intros;exact aj rfl rfl)|simp only[aa]) only[NX,c1,c2,h1,hl,go_sem,seval,ai])
 try simp[trim]
theorem nK {k u:Nat} {s:Sto} (h:okS k u s):0<=s.floor∧s.floor<=1099511627776:=by
 have:=h.len;unfold Sto.floor;split
 ·omega
 ·rename_i g r he;exact(h.seg g (by rw[he];simp)).1
def f6 (s:Sto):Txt:=if s.floor=0 then[] else(aB s.disk.files (aV s.floor)).1
theorem By {k u:Nat} (s:Sto) (h:okS k u s) (hk:k<=800000):call 41 [.agg s.l] []=some (vs (f6 s),[]):=by
 have hf:=kY s;have hn:=lI (nK h);have hr:=fE s.disk (Nat.le_trans h.dsk.len (by omega)) h.dsk.srt (aV s.floor)
 have e:f6 s=if s.floor=0 then[] else(aB s.disk.files (aV s.floor)).1:=rfl
 rw[e];generalize s.floor=fl at *;generalize aV fl=N at *;generalize aB s.disk.files N=rf at *;have hcell:s.l=[.d (.l (s.disk.files.map Fil.enc)),zI s.disk.cap,zB s.disk.armed,zI s.disk.left,zB s.disk.down,zI s.ver,.d (.l (s.segs.map Seg.enc)),zI s.next,zI s.sure,zI s.size,zW s.sum]:=rfl;have hd:s.disk.l=[.d (.l (s.disk.files.map Fil.enc)),zI s.disk.cap,zB s.disk.armed,zI s.disk.left,zB s.disk.down]:=rfl;apply ah OV rfl;rw[hcell] at hf ⊢;rw[hd] at hr;by_cases c:fl=0
 ·rw[if_pos c];(simp(disch:=first|decide|omega|(intros;exact aj rfl rfl)|simp only[aa]) only[aH,LQ,hf,c,go_sem,seval,ai])
  try simp[trim]
 ·rw[if_neg c];have c':(fl == 0)=false:=by simpa using c
  (simp(disch:=first|decide|omega|(intros;exact aj rfl rfl)|simp only[aa]) only[aH,LQ,hf,hn,hr,c',go_sem,seval,ai])
  try simp[trim]
theorem C0 (t:List UInt8) (h:(gc t).2=0):whyF (gc t).1=0:=by
 unfold gc at *;split at h
 ·exact absurd h (by decide)
 ·split at h
  ·exact absurd h (by decide)
  ·rename_i n k _ _ m j _;by_cases c:whyF ⟨n,m,t.drop (k+j)⟩=0
   ·simp only[if_pos c];exact c
   ·simp only[if_neg c] at h;exact absurd h c
theorem rk (s:List UInt8):∀ (f a:Nat) (b:Int),∀ x∈(bm f s a b).1,whyF x.1=0
 | 0,a,b,x,hx=>by simp[bm] at hx
 | f+1,a,b,x,hx=>by
  by_cases ha:a<s.length
  ·obtain⟨⟨t,n,e⟩,hn⟩:∃ y,bY s a=y:=⟨_,rfl⟩;by_cases he:e=0
   ·subst he;by_cases hg:(gc t).2=0
    ·by_cases hb:(gc t).1.at_=b
     ·rw[dN ha hn hg hb] at hx;rcases List.mem_cons.1 hx with rfl|hx
      ·exact C0 t hg
      ·exact rk s f n (b+1) x hx
     ·rw[eF ha hn hg hb] at hx;cases hx
    ·rw[eS ha hn hg] at hx;cases hx
   ·rw[dU ha hn he] at hx;cases hx
  ·rw[eH (Nat.not_lt.1 ha)] at hx;cases hx
theorem CJ (s:List UInt8) (b:Int):∀ x∈(cP s b).1,whyF x.1=0:=by
 intro x hx;unfold cP at hx;split at hx
 ·exact rk s _ _ _ x hx
 ·cases hx
theorem HB {r:Rec} (h:whyF r=0):r.da.length<=64:=by
 unfold whyF at h;split at h
 ·split at h
  ·assumption
  ·exact absurd h (by decide)
 ·exact absurd h (by decide)
def j8 (s:Sto) (off:Int):List UInt8:=if off<0∨s.next<=off then[] else match (iM s.scans).find? (fun r=>decide (r.at_=off)) with
 | some r=>r.da
 | none=>[]
theorem FH (s:Sto) (off:Int):∃ a b e,nk s off=.tup [(true,[zI a,zI b,zS (j8 s off)]),(false,[zI e])]:=by
 unfold nk j8;split
 ·exact⟨_,_,_,rfl⟩
 ·unfold iH;cases (iM s.scans).find? (fun r=>decide (r.at_=off)) with
  | none=>exact⟨_,_,_,rfl⟩
  | some r=>exact⟨r.at_,r.ti,0,rfl⟩
theorem wB (s:Sto) (off:Int):(j8 s off).length<=64:=by
 unfold j8;split
 ·simp
 ·cases hf:(iM s.scans).find? (fun r=>decide (r.at_=off)) with
  | none=>simp
  | some r =>
   have hm:=List.mem_of_find?_eq_some hf;simp only[iM,Sto.scans,List.flatMap_map,List.mem_flatMap,List.mem_map] at hm;obtain⟨g,_,x,hx,rfl⟩:=hm;exact HB (CJ _ _ x hx)
theorem AH (P Q:Pr->Bool) (h:∀ p,P p=true->Q p=false):∀ l:List Pr,(l.takeWhile P).length+(l.filter Q).length<=l.length
 | []=>by simp
 | x::r=>by
  rw[List.takeWhile_cons,List.filter_cons];by_cases hp:P x=true
  ·have hq:=h x hp;have:=AH P Q h r;simp[hp,hq];omega
  ·have h2:(r.filter Q).length<=r.length:=List.length_filter_le _ _;rw[if_neg hp];by_cases hq:Q x=true <;> simp[hq] <;> omega
theorem step_len (l:List Pr) (d:List UInt8):(iG l d).length<=l.length+1:=by
 cases d with
 | nil=>simp[iG]
 | cons c r =>
  have h1:=AH (fun p=>decide (p.key<(c.toNat:Int))) (fun p=>decide ((c.toNat:Int)<p.key)) (fun p hp=>by simp at hp ⊢;omega) l
  simp only[iG,zA];split <;> simp at h1 ⊢ <;> omega
def Fx (l:List Pr):Prop:=∀ p∈l,(0<=p.key∧p.key<256)∧p.val.length<=64
theorem step_ok {l:List Pr} (h:Fx l) {d:List UInt8} (hd:d.length<=64):Fx (iG l d):=by
 cases d with
 | nil=>exact h
 | cons c r =>
  intro p hp;simp only[iG,zX] at hp;rcases hp with(hp|hp)|hp
  ·exact h p ((List.takeWhile_sublist _).subset hp)
  ·split at hp
   ·cases hp
   ·rw[zV] at hp;subst hp;have:=UInt8.toNat_lt c;simp at hd;exact⟨⟨by simp only[];omega,by simp only[];omega⟩,by simp only[];omega⟩
  ·exact h p (List.mem_filter.1 hp).1
theorem Ay (s:List UInt8):∀ (n a:Nat) (out:List Pr) (r:List Pr × Nat),iv s n a out=some r->(∀ p∈out,0<=p.key∧p.key<256)->(∀ p∈r.1,0<=p.key∧p.key<256)∧r.1.length=out.length+n
 | 0,a,out,r,h,ho=>by simp only[iv] at h;cases h;exact⟨ho,rfl⟩
 | n+1,a,out,r,h,ho=>by
  simp only[iv] at h;split at h
  ·rename_i p b hp;have hk:0<=p.key∧p.key<256:=by
    unfold r6 at hp;split at hp
    ·split at hp
     ·cases hp
     ·cases hp;have:=UInt8.toNat_lt (s[a]?.getD 0);exact⟨by simp only[];omega,by simp only[];omega⟩
    ·cases hp
   have:=Ay s n b (out++[p]) r h (fun q hq=>by
    rcases zX.1 hq with hq|hq
    ·exact ho q hq
    ·rw[zV.1 hq];exact hk)
   refine⟨this.1,?_⟩;rw[this.2];simp;omega
  ·cases h
theorem BA {l:List Pr} (h:jg l=true):∀ p∈l,p.val.length<=64:=by
 intro p hp;obtain⟨i,hi,rfl⟩:=zJ hp;have:=(List.all_eq_true.1 h) i (by simpa using hi)
 simp only[ur,zE hi,xR,Bool.and_eq_true,decide_eq_true_eq] at this;omega
theorem vq {s:List UInt8} {l:List Pr} (h:cM s=some l):Fx l∧l.length<=256:=by
 unfold cM at h;split at h
 ·rename_i n k _;split at h
  ·cases h
  ·rename_i hn;unfold oc at h;split at h
   ·rename_i out a ho;split at h
    ·rename_i hc;cases h;have:=Ay s n k [] _ ho (fun p hp=>by cases hp)
     have hv:=BA hc.2;refine⟨fun p hp=>⟨this.1 p hp,hv p hp⟩,?_⟩
     rw[this.2];simp;omega
    ·cases h
   ·cases h
 ·cases h
def sB (s:Sto):Nat->Int->List Pr->List Pr
 | 0,_,l=>l
 | n+1,i,l=>sB s n (i+1) (iG l (j8 s i))
def cD (s:Sto) (off:Int):List Pr:=sB s (off-s.floor).toNat s.floor ((cM (f6 s)).getD [])
theorem EP (s:Sto):∀ (n:Nat) (i:Int) (l:List Pr),Fx l->Fx (sB s n i l)∧(sB s n i l).length<=l.length+n
 | 0,i,l,h=>⟨h,by simp[sB]⟩
 | n+1,i,l,h=>by
  have h1:=EP s n (i+1) (iG l (j8 s i)) (step_ok h (wB s i));have h2:=step_len l (j8 s i);exact⟨h1.1,by simp only[sB];omega⟩
theorem wO (s:Sto) (off:Int):Fx (cD s off)∧(cD s off).length<=256+(off-s.floor).toNat:=by
 have h:Fx ((cM (f6 s)).getD [])∧((cM (f6 s)).getD []).length<=256:=by
  cases hp:cM (f6 s) with
  | none=>exact⟨fun p hp=>(by simp at hp),by simp⟩
  | some l=>exact vq hp
 have:=EP s (off-s.floor).toNat s.floor _ h.1;exact⟨this.1,by unfold cD;omega⟩
theorem xp {k u:Nat} (s:Sto) (h:okS k u s) (hk:k<=800000) (hu:u<=1000000) (off:Int) (ho:off<=s.floor+100000):call 18 [.agg s.l,vi off] []=some (vl ((cD s off).map Pr.enc),[]):=by
 have hf:=kY s;have hfb:=nK h;have hs:=By s h hk;have hsl:(f6 s).length<=1000000:=by
  unfold f6;split
  ·simp
  ·exact Nat.le_trans (bP _ _) (Nat.le_trans h.dsk.used hu)
 have hp:=B7 (f6 s) (by omega)
 have hpv:∃ ok:Bool,il (cM (f6 s))=.tup [(false,[.d (.l (((cM (f6 s)).getD []).map Pr.enc))]),(false,[zB ok])]:=by
  cases cM (f6 s) with
  | none=>exact⟨false,rfl⟩
  | some l=>exact⟨true,rfl⟩
 have hl0:((cM (f6 s)).getD []).length<=256:=by
  cases hp:cM (f6 s) with
  | none=>simp
  | some l=>exact(vq hp).2
 have hg:=fun i=>Bo s h hk hu i
 obtain⟨Z,hZ⟩:∃ Z:V,Z=vl ((cD s off).map Pr.enc):=⟨_,rfl⟩;rw[<- hZ];have hZ':Z=vl ((sB s (off-s.floor).toNat s.floor ((cM (f6 s)).getD [])).map Pr.enc):=hZ;clear hZ;obtain⟨ok,hpv⟩:=hpv;rw[hpv] at hp;generalize (cM (f6 s)).getD []=l0 at *;generalize f6 s=sn at *;have hcell:s.l=[.d (.l (s.disk.files.map Fil.enc)),zI s.disk.cap,zB s.disk.armed,zI s.disk.left,zB s.disk.down,zI s.ver,.d (.l (s.segs.map Seg.enc)),zI s.next,zI s.sure,zI s.size,zW s.sum]:=rfl;apply ah Oy rfl;rw[hcell] at hf hs hg ⊢;obtain⟨fl,hfl⟩:∃ fl,fl=s.floor:=⟨_,rfl⟩;rw[<- hfl] at hf hfb hZ' ho;(simp(disch:=first|decide|omega|(intros;exact aj rfl rfl)|simp only[aa]) only[aH,LM,hf,hs,hp,go_sem,seval,ai])
 refine aE (m:=0) (σ:=Int × List Pr) (fun t=>(off-t.1).toNat) (fun t=>fl<=t.1∧t.2.length<=256+(t.1-fl).toNat∧Z=vl ((sB s (off-t.1).toNat t.1 t.2).map Pr.enc)) (fun t=>[vi off,V.one (.p 0 0),vl (t.2.map Pr.enc),vi t.1])
  (fun _=>[.cells [.d (.l (s.disk.files.map Fil.enc)),zI s.disk.cap,zB s.disk.armed,zI s.disk.left,zB s.disk.down,zI s.ver,.d (.l (s.segs.map Seg.enc)),zI s.next,zI s.sure,zI s.size,zW s.sum]]) (fun _=>(Z,[])) ?_ (fl,l0) ⟨Int.le_refl _,by simp only[];omega,hZ'⟩ _ _ bv
 rintro⟨i,l⟩ ⟨h1,h2,h3⟩ R hR;simp only at h1 h2 h3;by_cases hi:i<off
 ·obtain⟨n,hn⟩:∃ n,(off-i).toNat=n+1:=⟨(off-i).toNat-1,by omega⟩
  rw[hn,sB] at h3;obtain⟨a,b,e,he⟩:=FH s i;have hgi:=hg i;rw[he] at hgi;have hst:=step_ref l (by omega) (j8 s i) (Nat.le_trans (wB s i) (by decide))
  have hsl:=step_len l (j8 s i);have hR':=hR (i+1,iG l (j8 s i)) (by simp only[];omega) ⟨by simp only[];omega,by simp only[];omega,by simp only[];rw[show(off-(i+1)).toNat=n by omega];exact h3⟩
  generalize iG l (j8 s i)=l1 at *;generalize j8 s i=dd at *;(simp(disch:=first|decide|omega|(intros;exact aj rfl rfl)|simp only[aa]) only[aH,DI,zT hi,hgi,hst,go_sem,seval,ai])
  exact hR' _ _ bv
 ·have e:(off-i).toNat=0:=by omega
  rw[e,sB] at h3;rw[h3];(simp(disch:=first|decide|omega|(intros;exact aj rfl rfl)|simp only[aa]) only[aH,DI,LM,zF hi,go_sem,seval,ai])
  try simp[trim]
theorem oT (d:Dsk) (hd:d.ok) (e:Int) (n:Txt):call 118 [.agg d.l,vi e,vs n] []=some (aR (eD n (d,e)),[]):=by
 have h:=cG d hd n;have e1:cQ n (d,0)=aA d (b7 d.files n):=cA _ _;have eu:eD n (d,e)=if e≠9 then(d,e) else if(aA d (b7 d.files n)).2=0 then((aA d (b7 d.files n)).1,9) else aA d (b7 d.files n):=by
  unfold eD;simp only[e1]
 rw[eu];generalize aA d (b7 d.files n)=q at *;obtain⟨⟨fl,cp,ar,lf,dn⟩,qe⟩:=q;obtain⟨fl0,cp0,ar0,lf0,dn0⟩:=d;simp only[aR,Dsk.l] at h ⊢;apply ah Mg rfl;by_cases c:e=9
 ·subst c;rw[if_neg (by simp)]
  by_cases c2:qe=0
  ·subst c2;rw[if_pos rfl];(simp(disch:=first|decide|omega|(intros;exact aj rfl rfl)|simp only[aa]) only[aH,HK,h,go_sem,seval,ai])
   try simp[trim]
  ·rw[if_neg c2];(simp(disch:=first|decide|omega|(intros;exact aj rfl rfl)|simp only[aa]) only[aH,HK,h,c2,go_sem,seval,ai])
   try simp[trim,c2]
 ·rw[if_pos c];(simp(disch:=first|decide|omega|(intros;exact aj rfl rfl)|simp only[aa]) only[aH,HK,c,go_sem,seval,ai])
  try simp[trim,c]
def mS (x:Txt):Int:=(((bF 0#32 x).toNat:Nat):Int)
theorem Av (x:Txt):0<=mS x∧mS x<4294967296:=by
 have:=(bF 0#32 x).isLt;unfold mS;omega
def yE (d:Dsk) (n x:Txt) (m:Man):Dsk × Int :=
 let a:=bS n (d,0)
 let b:=if a.2=0 then eD n (lT n x a) else a
 let c:=gK n b
 if c.2=0 then eD n (bX m c) else c
def fh (l:List Seg) (s:Dsk × Int):Dsk × Int:=l.foldl (fun s g=>cQ (fileN g.base) s) s
def uL (s:Sto) (k:Nat) (q:Dsk × Int):Dsk × Int :=
 let r:=fh (s.segs.take k) q
 if r.2=0∧0<s.floor then cQ (aV s.floor) r else r
def bC (l:List Seg) (k:Nat):Int:=match l[k]? with|some g=>g.base|none=>0
def gj (s:Sto) (k:Nat):Sto:={ s with ver:=s.ver+1,segs:=s.segs.drop k,size:=((cC (cD s (bC s.segs k))).length:Nat),sum:=mS (cC (cD s (bC s.segs k))) }
def p9 (s:Sto) (k:Nat):Sto × Int :=
 let e:=yE s.disk (aV (bC s.segs k)) (cC (cD s (bC s.segs k))) (gj s k).man
 if e.2≠0 then({ s with disk:=e.1 },e.2) else({ gj s k with disk:=(uL s k e).1 },(uL s k e).2)
def iU (s:Sto) (keep count:Int):Sto × Int:=if ik s.segs keep count=0 then(s,0) else p9 s (ik s.segs keep count)
theorem tT {k u:Nat}:∀ (l:List Seg) (s:Dsk × Int),okN k u s.1->okN k u (fh l s).1
 | [],s,h=>h
 | g::l,s,h=>tT l _ (dM h _)
theorem IX {k u:Nat} {s:Sto} {n:Nat} {q:Dsk × Int} (h:okN k u q.1):okN k u (uL s n q).1:=by
 unfold uL;simp only[];split
 ·exact dM (tT _ _ h) _
 ·exact tT _ _ h
theorem Jd {k u:Nat} {d:Dsk} (h:okN k u d) (n x:Txt) (m:Man):okN (k+2) (u+x.length+800) (yE d n x m).1:=by
 unfold yE;simp only[];have h1:=fH (s:=(d,0)) h n;have h2:okN (k+1) (u+x.length) (if(bS n (d,0)).2=0 then eD n (lT n x (bS n (d,0))) else bS n (d,0)).1:=by
  split
  ·exact lm (kR h1 n x) n
  ·exact h1.up (by omega) (by omega)
 generalize (if(bS n (d,0)).2=0 then eD n (lT n x (bS n (d,0))) else bS n (d,0))=b at *
 have h3:=ky h2 n;split
 ·exact lm (jm h3 m) n
 ·exact h3.up (by omega) (by omega)
theorem wz (n:Nat) (h:n<9223372036854775808):(au n).length<=9:=gv h
theorem sP {l:List Pr} (h:Fx l) (hl:l.length<=1000000):(cC l).length<=9+74*l.length:=by
 have h1:∀ l:List Pr,Fx l->(l.flatMap vX).length<=74*l.length:=by
  intro l;induction l with
  | nil=>intro _;simp
  | cons p r ih =>
   intro h;have hp:=(h p (by simp)).2
   have hr:=ih (fun q hq=>h q (by simp[hq]))
   have he:=wz p.val.length (by omega)
   rw[List.flatMap_cons,zA];simp only[vX,List.length_cons,zA];omega
 have h2:=h1 l h;have h3:=wz l.length (by omega)
 unfold cC;rw[zA];omega
theorem nN {l:List Seg} {k:Nat} (h:k<l.length):l[k]?=some l[k]∧bC l k=l[k].base:=by
 have e:l[k]?=some l[k]:=zE h;exact⟨e,by unfold bC;rw[e]⟩
theorem GS {k u:Nat} {s:Sto} (h:okS k u s) {n:Nat} (hn:n<s.segs.length):0<=bC s.segs n∧bC s.segs n<=1099511627776:=by
 rw[(nN hn).2];exact(h.seg _ (zN hn)).1
theorem C5 {k u:Nat} {s:Sto} (h:okS k u s) {n:Nat} (hn:n<s.segs.length) (hb:bC s.segs n<=s.floor+40):okS (k+2) (u+23000) (p9 s n).1:=by
 have hs:=wO s (bC s.segs n);have hlen:=sP hs.1 (by omega)
 have hl:=Jd h.dsk (aV (bC s.segs n)) (cC (cD s (bC s.segs n))) (gj s n).man;have hl':=hl.up (k':=k+2) (u':=u+23000) (Nat.le_refl _) (by omega)
 unfold p9;simp only[];split
 ·exact⟨hl',h.len,fun g hg=>by have:=h.seg g hg;omega,h.next,by have:=h.ver;simp only[];omega,h.sum⟩
 ·refine⟨IX hl',?_,fun g hg=>?_,h.next,?_,Av _⟩
  ·show 1<=(s.segs.drop n).length∧(s.segs.drop n).length<=64;have:=h.len;simp;omega
  ·have:=h.seg g (List.mem_of_mem_drop hg);omega
  ·show 0<=s.ver+1∧s.ver+1<=((u+23000:Nat):Int);have:=h.ver;omega
theorem zy {s:Dsk × Int} (h:s.2≠0):∀ l:List Seg,fh l s=s
 | []=>rfl
 | g::l=>by
  have e:fh (g::l) s=fh l (cQ (fileN g.base) s):=rfl;rw[e,show cQ (fileN g.base) s=s from gw h _]
  exact zy h l
theorem FZ {l:List Seg} {i n:Nat} (hi:i<n) (h:i<l.length) (s:Dsk × Int):fh ((l.take n).drop i) s=fh ((l.take n).drop (i+1)) (cQ (fileN l[i].base) s):=by
 rw[zD (by simp;omega),List.getElem_take];rfl
theorem okS.segsB {k u:Nat} {s:Sto} (h:okS k u s) (hu:u<=1000000):segsB s.segs :=
 ⟨by have:=h.len;omega,fun g hg=>by have:=h.seg g hg;omega⟩
theorem yc {k u:Nat} (s:Sto) (h:okS k u s) (hk:k<=700000) (hu:u<=1000000) (keep count:Int) (hb:∀ g∈s.segs,g.base<=s.floor+40):call 73 [.agg s.l,vi keep,vi count] []=some (bh (iU s keep count),[]):=by
 have q1:=Bz s.segs (h.segsB (by omega)) keep count
 by_cases c0:ik s.segs keep count=0
 ·have e:iU s keep count=(s,0):=by unfold iU;rw[if_pos c0]
  rw[e];rw[c0] at q1;have z0:((0:Nat):Int)=0:=rfl;rw[z0] at q1;obtain⟨⟨fl,cp,ar,lf,dn⟩,ver,segs,next,sure,size,sum⟩:=s;simp only[Sto.l,Dsk.l,bh,List.cons_append,List.nil_append] at q1 ⊢;apply ah Nm rfl;(simp(disch:=first|decide|omega|(intros;exact aj rfl rfl)|simp only[aa]) only[aH,Ey,q1,go_sem,seval,ai])
  try simp[trim]
 ·have hn:=vF s.segs keep count c0;have e:iU s keep count=p9 s (ik s.segs keep count):=by unfold iU;rw[if_neg c0]
  rw[e];clear e;generalize ik s.segs keep count=n at *;have hfb:=GS h hn;have hbk:bC s.segs n<=s.floor+40:=by rw[(nN hn).2];exact hb _ (zN hn)
  have q2:(s.segs.map Seg.enc)[n]?=some [.i .i64 (bC s.segs n),.i .i64 s.segs[n].n,.i .i64 s.segs[n].size]:=by
   rw[zG,(nN hn).1,(nN hn).2];rfl
  have q3:=lI hfb;have q4:=xp s h (by omega) (by omega) (bC s.segs n) (by omega)
  have hst:=wO s (bC s.segs n);have hfo:=nK h;have hxl:=sP hst.1 (by omega)
  have q5:=BP (cD s (bC s.segs n)) (by omega) (by omega) (fun p hp=>(hst.1 p hp).1)
  have q6:=fw s.disk (h.dsk.ok (by omega) (by omega)) (aV (bC s.segs n))
  have e6:bS (aV (bC s.segs n)) (s.disk,0)=aA s.disk (cN s.disk.files (aV (bC s.segs n))):=cA _ _;have k6:=fH (s:=(s.disk,0)) h.dsk (aV (bC s.segs n));have q10:=mI (cC (cD s (bC s.segs n))) (by omega)
  have hsum:=Av (cC (cD s (bC s.segs n)));have es:mS (cC (cD s (bC s.segs n)))=(((bF 0#32 (cC (cD s (bC s.segs n)))).toNat:Nat):Int):=rfl;rw[<- es] at q10;have hxm:(gj s n).segs.length<=1000000:=by show(s.segs.drop n).length<=_;have:=h.len;simp;omega
  have q11:=ox (gj s n) hxm;have hmo:(gj s n).man.ok:=⟨by show((s.segs.drop n).map _).length<=_;rw[zM];exact hxm,hsum⟩
  have eX:gj s n={ s with ver:=s.ver+1,segs:=s.segs.drop n,size:=((cC (cD s (bC s.segs n))).length:Nat),sum:=mS (cC (cD s (bC s.segs n))) }:=rfl
  have hX2:(cC (cD s (bC s.segs n))).length<=1000000:=by omega
  unfold p9 yE;simp only[];rw[e6] at k6 ⊢;have hfin:∀ q,uL s n q=uL s n q:=fun _=>rfl
  generalize cD s (bC s.segs n)=st at *;generalize cC st=X at *;generalize aV (bC s.segs n)=N at *;generalize bC s.segs n=fb at *;generalize aA s.disk (cN s.disk.files N)=a at *;apply ah Nm rfl;have hver:=h.ver;have hok:aQ 3 (s.segs.map Seg.enc)=true:=a8 Seg.len s.segs;have hslen:s.segs.length<=64:=h.len.2;have hnl:n<=s.segs.length:=Nat.le_of_lt hn;obtain⟨DQ,hDQ,hokd,hdl,hdl2⟩:∃ DQ,List.drop n (s.segs.map Seg.enc)=DQ∧aQ 3 DQ=true∧DQ.length<=64∧DQ=(s.segs.drop n).map Seg.enc:=by
   have e:List.drop n (s.segs.map Seg.enc)=(s.segs.drop n).map Seg.enc:=by rw[List.map_drop]
   exact⟨_,rfl,by rw[e];exact a8 Seg.len _,by rw[e];simp;omega,e⟩
  by_cases c1:a.2=0
  ·rw[if_pos c1];have e7:lT N X a=aA a.1 (dg a.1.files a.1.cap N X):=if_pos c1;have q7:=gH a.1 (k6.ok (by omega) (by omega)) N X (by omega)
   have k7:=kR k6 N X;rw[e7] at k7 ⊢;generalize aA a.1 (dg a.1.files a.1.cap N X)=p at *;have q8:=oT p.1 (k7.ok (by omega) (by omega)) p.2 N
   have k8:=lm k7 N;have ep:eD N (p.1,p.2)=eD N p:=rfl;rw[ep] at q8;generalize eD N p=b at *;by_cases c2:b.2=0
   ·have e9:gK N b=aA b.1 (di b.1.files N):=if_pos c2;have q9:=fK b.1 (k8.ok (by omega) (by omega)) N
    have k9:=ky k8 N;rw[e9] at k9 ⊢;generalize aA b.1 (di b.1.files N)=c at *;by_cases c3:c.2=0
    ·rw[if_pos c3];have q12:=mK c.1 k9 (by omega) (by omega) (gj s n).man hmo
     have ec:bX (gj s n).man (c.1,0)=bX (gj s n).man c:=by rw[<- c3]
     have k10:=jm k9 (gj s n).man;rw[ec] at q12;generalize bX (gj s n).man c=w at *;have q13:=oT w.1 (k10.ok (by omega) (by omega)) w.2 N
     have k11:=lm k10 N;have ew:eD N (w.1,w.2)=eD N w:=rfl;rw[ew] at q13;generalize eD N w=v at *;by_cases c4:v.2=0
     ·rw[if_neg (by simp[c4])]
      have hsg:(gj s n).segs.map Seg.enc=DQ:=hdl2.symm;have qf:=kY s;have qs:=lI hfo;have hseg:=h.seg;obtain⟨fl',hfl'⟩:∃ fl',fl'=s.floor:=⟨_,rfl⟩;have eold:uL s n v=(if(fh (s.segs.take n) v).2=0∧0<fl' then cQ (aV fl') (fh (s.segs.take n) v) else fh (s.segs.take n) v):=by rw[hfl'];rfl
      rw[eold];rw[<- hfl'] at qf qs hfo;clear eold hfl' hfin hbk hb;generalize aV fl'=FN at *;obtain⟨Z,hZ⟩:∃ Z:V,Z=bh ({ gj s n with disk:=(if(fh (s.segs.take n) v).2=0∧0<fl' then cQ FN (fh (s.segs.take n) v) else fh (s.segs.take n) v).1 },(if(fh (s.segs.take n) v).2=0∧0<fl' then cQ FN (fh (s.segs.take n) v) else fh (s.segs.take n) v).2):=⟨_,rfl⟩
      rw[<- hZ];generalize hQ:fh (s.segs.take n) v=Q at hZ;obtain⟨⟨fl,cp,ar,lf,dn⟩,ver,segs,next,sure,size,sum⟩:=s;obtain⟨⟨fl1,cp1,ar1,lf1,dn1⟩,a2⟩:=a;obtain⟨⟨fl2,cp2,ar2,lf2,dn2⟩,p2⟩:=p;obtain⟨⟨fl3,cp3,ar3,lf3,dn3⟩,b2⟩:=b;obtain⟨⟨fl4,cp4,ar4,lf4,dn4⟩,c2'⟩:=c;obtain⟨⟨fl5,cp5,ar5,lf5,dn5⟩,w2⟩:=w;obtain⟨⟨fl6,cp6,ar6,lf6,dn6⟩,v2⟩:=v;simp only at c1 c2 c3 c4;subst c1 c2 c3 c4;simp only[Sto.l,Dsk.l,bh,aR,Sto.man,Man.l,eX,List.cons_append,List.nil_append] at q1 q2 q4 q6 q7 q8 q9 q11 q12 q13 hok hnl hDQ hsg hver hZ hQ k11 hseg hn qf hslen ⊢;rw[hsg] at q11 hZ;(simp(disch:=first|decide|omega|(intros;exact aj rfl rfl)|simp only[aa]) only[aH,Ey,q1,q2,q3,q4,q5,q6,q7,q8,q9,q10,c0,hok,hnl,hDQ,hokd,↓cJ,kr,dE,lR,dj,q11,q12,q13,go_sem,seval,ai,bg,A.kind,A.xs,aG,A.isN])
      refine aE (m:=0) (σ:=Nat × (Dsk × Int)) (fun t=>n-t.1) (fun t=>t.1<=n∧okN (k+1+1) (u+X.length+800) t.2.1∧fh ((segs.take n).drop t.1) t.2=Q) (fun t=>[V.one (.p 0 0),V.one (.p 1 0),vi n,V.one (.p 2 0),vi t.2.2,V.one (.p 3 0),vi t.1])
       (fun t=>[.cells [.d (.l (fl.map Fil.enc)),zI cp,zB ar,zI lf,zB dn,zI ver,.d (.l (segs.map Seg.enc)),zI next,zI sure,zI size,zW sum],
        .cells [.ns,zI 0,zB false,zI 0,zB false,zI 0,.ns,zI 0,zI 0,zI 0,zW 0],
        .cells [.d (.l (t.2.1.files.map Fil.enc)),zI t.2.1.cap,zB t.2.1.armed,zI t.2.1.left,zB t.2.1.down],
        .cells [.d (.l (fl.map Fil.enc)),zI cp,zB ar,zI lf,zB dn,zI (ver+1),.sl 4 3 0 DQ.length,zI next,zI sure,zI X.length,zW (mS X)],
        .arr 3 DQ (max 0 DQ.length)]) (fun _=>(Z,[])) ?_ (0,(⟨fl6,cp6,ar6,lf6,dn6⟩,0)) ⟨zP _,k11,by simpa using hQ⟩ _ _ ?_
      rotate_left
      ·exact bv
      rintro⟨i,⟨⟨dfl,dcp,dar,dlf,ddn⟩,de⟩⟩ ⟨h1,h2,h3⟩ R hR;simp only at h1 h2 h3 ⊢;clear q1 q3 q4 q5 q6 q7 q8 q9 q10 q11 q12 q13 hQ q2;have htk:List.take DQ.length DQ=DQ:=List.take_length;by_cases he:de=0
      ·subst he;by_cases hi:i<n
       ·have hil:i<segs.length:=by omega
        have g1:(segs.map Seg.enc)[i]?=some [.i .i64 segs[i].base,.i .i64 segs[i].n,.i .i64 segs[i].size]:=by
         rw[zG,zE hil];rfl
        have g2:=dk (hseg _ (zN hil)).1;have g3:=cG ⟨dfl,dcp,dar,dlf,ddn⟩ (h2.ok (by omega) (by omega)) (fileN segs[i].base)
        have kk:=dM (s:=(⟨dfl,dcp,dar,dlf,ddn⟩,0)) h2 (fileN segs[i].base);have e1:cQ (fileN segs[i].base) (⟨dfl,dcp,dar,dlf,ddn⟩,0)=aA ⟨dfl,dcp,dar,dlf,ddn⟩ (b7 dfl (fileN segs[i].base)):=cA _ _;rw[FZ hi hil] at h3;rw[e1] at h3 kk;simp only at g3;generalize aA ⟨dfl,dcp,dar,dlf,ddn⟩ (b7 dfl (fileN segs[i].base))=q at *;have hR':=hR (i+1,q) (by simp only[];omega) ⟨by simp only[];omega,kk,h3⟩
        generalize fileN segs[i].base=FB at *;obtain⟨⟨qfl,qcp,qar,qlf,qdn⟩,qe⟩:=q;simp only[Dsk.l,aR] at g3 hR';have hci:(i:Int)<(n:Int):=by omega
        (simp(disch:=first|decide|omega|(intros;exact aj rfl rfl)|simp only[aa]) only[aH,sY,zT hci,g1,g2,g3,go_sem,seval,ai,bg,A.kind,A.xs,aG,A.isN])
        exact hR' _ _ bv
       ·have hci:¬ (i:Int)<(n:Int):=by omega
        rw[zC (by simp;omega)] at h3
        have h3':Q=(⟨dfl,dcp,dar,dlf,ddn⟩,0):=h3.symm;subst h3';by_cases hf:0<fl'
        ·rw[if_pos ⟨rfl,hf⟩] at hZ;have g3:=cG ⟨dfl,dcp,dar,dlf,ddn⟩ (h2.ok (by omega) (by omega)) FN
         have e1:cQ FN (⟨dfl,dcp,dar,dlf,ddn⟩,0)=aA ⟨dfl,dcp,dar,dlf,ddn⟩ (b7 dfl FN):=cA _ _;rw[e1] at hZ;simp only at g3;generalize aA ⟨dfl,dcp,dar,dlf,ddn⟩ (b7 dfl FN)=q at *;obtain⟨⟨qfl,qcp,qar,qlf,qdn⟩,qe⟩:=q;simp only[Dsk.l,aR] at g3 hZ;rw[hZ];(simp(disch:=first|decide|omega|(intros;exact aj rfl rfl)|simp only[aa]) only[aH,sY,Ey,zF hci,qf,qs,zT hf,g3,htk,go_sem,seval,ai,bg,A.kind,A.xs,aG,A.isN])
         try simp[trim]
        ·rw[if_neg (fun h=>hf h.2)] at hZ
         simp only at hZ;rw[hZ];(simp(disch:=first|decide|omega|(intros;exact aj rfl rfl)|simp only[aa]) only[aH,sY,Ey,zF hci,qf,zF hf,htk,go_sem,seval,ai,bg,A.kind,A.xs,aG,A.isN])
         try simp[trim]
      ·rw[zy he] at h3;subst h3;rw[if_neg (fun h=>he h.1)] at hZ
       simp only at hZ;rw[hZ];have he':(de == 0)=false:=by simpa using he
       by_cases hi:i<n
       ·have hci:(i:Int)<(n:Int):=by omega
        (simp(disch:=first|decide|omega|(intros;exact aj rfl rfl)|simp only[aa]) only[aH,sY,Ey,zT hci,he,he',htk,go_sem,seval,ai,bg,A.kind,A.xs,aG,A.isN])
        try simp[trim]
       ·have hci:¬ (i:Int)<(n:Int):=by omega
        (simp(disch:=first|decide|omega|(intros;exact aj rfl rfl)|simp only[aa]) only[aH,sY,Ey,zF hci,he,he',htk,go_sem,seval,ai,bg,A.kind,A.xs,aG,A.isN])
        try simp[trim]
     ·rw[if_pos c4];have hsg:(gj s n).segs.map Seg.enc=DQ:=hdl2.symm;obtain⟨⟨fl,cp,ar,lf,dn⟩,ver,segs,next,sure,size,sum⟩:=s;obtain⟨⟨fl1,cp1,ar1,lf1,dn1⟩,a2⟩:=a;obtain⟨⟨fl2,cp2,ar2,lf2,dn2⟩,p2⟩:=p;obtain⟨⟨fl3,cp3,ar3,lf3,dn3⟩,b2⟩:=b;obtain⟨⟨fl4,cp4,ar4,lf4,dn4⟩,c2'⟩:=c;obtain⟨⟨fl5,cp5,ar5,lf5,dn5⟩,w2⟩:=w;obtain⟨⟨fl6,cp6,ar6,lf6,dn6⟩,v2⟩:=v;simp only at c1 c2 c3;subst c1 c2 c3;simp only[Sto.l,Dsk.l,bh,aR,Sto.man,Man.l,hsg,eX,List.cons_append,List.nil_append] at *;rw[hsg] at q11;(simp(disch:=first|decide|omega|(intros;exact aj rfl rfl)|simp only[aa]) only[aH,Ey,q1,q2,q3,q4,q5,q6,q7,q8,q9,q10,c0,hok,hnl,hDQ,hokd,↓cJ,kr,dE,lR,dj,q11,q12,q13,c4,go_sem,seval,ai,bg,A.kind,A.xs,aG,A.isN])
      try simp[trim,c4]
    ·rw[if_neg c3,if_pos c3];obtain⟨⟨fl,cp,ar,lf,dn⟩,ver,segs,next,sure,size,sum⟩:=s;obtain⟨⟨fl1,cp1,ar1,lf1,dn1⟩,a2⟩:=a;obtain⟨⟨fl2,cp2,ar2,lf2,dn2⟩,p2⟩:=p;obtain⟨⟨fl3,cp3,ar3,lf3,dn3⟩,b2⟩:=b;obtain⟨⟨fl4,cp4,ar4,lf4,dn4⟩,c2'⟩:=c;simp only at c1 c2;subst c1 c2;simp only[Sto.l,Dsk.l,bh,aR,List.cons_append,List.nil_append] at *;(simp(disch:=first|decide|omega|(intros;exact aj rfl rfl)|simp only[aa]) only[aH,Ey,q1,q2,q3,q4,q5,q6,q7,q8,q9,q10,c0,c3,hok,hnl,hDQ,hokd,go_sem,seval,ai])
     try simp[trim,c3]
   ·have e9:gK N b=b:=gw c2 _;rw[e9,if_neg c2,if_pos c2];obtain⟨⟨fl,cp,ar,lf,dn⟩,ver,segs,next,sure,size,sum⟩:=s;obtain⟨⟨fl1,cp1,ar1,lf1,dn1⟩,a2⟩:=a;obtain⟨⟨fl2,cp2,ar2,lf2,dn2⟩,p2⟩:=p;obtain⟨⟨fl3,cp3,ar3,lf3,dn3⟩,b2⟩:=b;simp only at c1;subst c1;simp only[Sto.l,Dsk.l,bh,aR,List.cons_append,List.nil_append] at *;(simp(disch:=first|decide|omega|(intros;exact aj rfl rfl)|simp only[aa]) only[aH,Ey,q1,q2,q3,q4,q5,q6,q7,q8,q10,c0,c2,hok,hnl,hDQ,hokd,go_sem,seval,ai])
    try simp[trim,c2]
  ·rw[if_neg c1];have e1:gK N a=a:=gw c1 _;rw[e1,if_neg c1,if_pos c1];obtain⟨⟨fl,cp,ar,lf,dn⟩,ver,segs,next,sure,size,sum⟩:=s;obtain⟨⟨fl1,cp1,ar1,lf1,dn1⟩,a2⟩:=a;simp only[Sto.l,Dsk.l,bh,aR,List.cons_append,List.nil_append] at *;(simp(disch:=first|decide|omega|(intros;exact aj rfl rfl)|simp only[aa]) only[aH,Ey,q1,q2,q3,q4,q5,q6,q10,c0,c1,hok,hnl,hDQ,hokd,go_sem,seval,ai])
   try simp[trim,c1]
abbrev FM:=Txt->Option (Txt × Int)
def fm (l:List Fil):FM:=fun n=>(l.find? fun f=>decide (f.name=n)).map fun f=>(f.data,f.sure)
def up (F:FM) (n:Txt) (v:Option (Txt × Int)):FM:=fun k=>if k=n then v else F k
structure Dk (d d':Dsk):Prop where
 cap:d'.cap=d.cap
 armed:d'.armed=d.armed
 down:d.down=true->d'=d
 idle:d.armed=false->d.down=false->d'.down=false∧d'.left=d.left
def Pm (d:Dsk) (r:Dsk × Int) (X:List Txt) (G:FM) (G9:Option FM):Prop :=
 Dk d r.1∧srt r.1.files∧((r.2=0∧r.1.down=false∧fm r.1.files=G)∨(∃ g,G9=some g∧r.2=9∧r.1.down=false∧fm r.1.files=g)∨(r.2=10∧r.1.down=true∧∀ n,n ∉ X->fm r.1.files n=fm d.files n))
def Kk (l:List Txt) (s:Dsk × Int):Dsk × Int:=l.foldl (fun s n=>cQ n s) s
theorem vM (n:Txt) (l:List Txt) (s:Dsk × Int):Kk (n::l) s=Kk l (cQ n s):=rfl
theorem uS (l:List Txt) (s:Dsk × Int) (h:s.2≠0):Kk l s=s:=by
 induction l with
 | nil=>rfl
 | cons n l ih=>rw[vM,show cQ n s=s from gw h _];exact ih
def N8 (s:Sto) (k:Nat):List Txt:=(s.segs.take k).map (fun g=>fileN g.base)++(if 0<s.floor then[aV s.floor] else[])
def manV (m:Man):Option (Txt × Int):=some (bu m,((bu m).length:Nat))
def Pl (l:List Txt) (F:FM):FM:=fun k=>if k∈l then none else F k
structure Act where
 kind:Int
 n:Int
 data:List UInt8
 deriving DecidableEq
def Act.enc (e:Act):List D:=[.i .i64 e.kind,.i .i64 e.n,.s e.data]
def Act.ok (e:Act):Prop:=(-9223372036854775808<=e.kind∧e.kind<9223372036854775808)∧(-9223372036854775808<=e.n∧e.n<9223372036854775808)∧e.data.length<=9223372036854775807
def Act.ty:List Ty:=[.i .i64,.i .i64,.s]
def GL (d:Dsk) (n:Int):Dsk:={ d with armed:=decide (0<=n),left:=if 0<n then n else 0 }
def Gm (d:Dsk) (n:Int):Dsk:={ d with cap:=if 0<n then n else 0 }
theorem vz (d:Dsk) (n:Int) (hn : -9223372036854775808<=n∧n<9223372036854775808):call 14 [.agg d.l,vi n] []=some (.agg (GL d n).l,[]):=by
 apply ah Ph rfl;obtain⟨fl,cp,ar,lf,dn⟩:=d;unfold GL;by_cases c:0<n
 ·have c2:0<=n:=by omega
  (simp(disch:=first|decide|omega|(intros;exact aj rfl rfl)|simp only[aa]) only[aH,Ng,Dsk.l,c,c2,go_sem,seval,ai])
  try simp[trim]
  try omega
 ·have c3:¬ n > 0:=c;(simp(disch:=first|decide|omega|(intros;exact aj rfl rfl)|simp only[aa]) only[aH,Ng,Dsk.l,c,go_sem,seval,ai])
  try simp[trim]
  try omega
theorem DP (d:Dsk) (n:Int) (hn : -9223372036854775808<=n∧n<9223372036854775808):call 74 [.agg d.l,vi n] []=some (.agg (Gm d n).l,[]):=by
 apply ah O6 rfl;obtain⟨fl,cp,ar,lf,dn⟩:=d;unfold Gm;by_cases c:0<n
 ·(simp(disch:=first|decide|omega|(intros;exact aj rfl rfl)|simp only[aa]) only[aH,ML,Dsk.l,c,go_sem,seval,ai])
  try simp[trim]
  try omega
 ·(simp(disch:=first|decide|omega|(intros;exact aj rfl rfl)|simp only[aa]) only[aH,ML,Dsk.l,c,go_sem,seval,ai])
  try simp[trim]
  try omega
variable {f:Int} {S:Txt} {l0:List Pr} {s:Sto} {M:List SR} {g:Seg} {l:List Rec}
def rel (f:Int) (s:Sto) (n:Txt):Prop:=n=[109]∨(∃ g∈s.segs,n=fileN g.base)∨(0<f∧n=aV f)
def Snp (f:Int) (S:Txt) (l0:List Pr) (s:Sto):Prop :=
 (f=0∧S=[]∧l0=[]∧s.size=0∧s.sum=0)∨(0<f∧fm s.disk.files (aV f)=some (S,((S.length:Nat):Int))∧cM S=some l0∧s.size=((S.length:Nat):Int)∧s.sum=mS S)
structure W (f:Int) (S:Txt) (l0:List Pr) (s:Sto) (M:List SR) (g:Seg) (l:List Rec):Prop where
 inv:Inv f s M g l
 snp:Snp f S l0 s
 man:fm s.disk.files [109]=manV s.man
 right:manB s.man=true
 full:∀ p∈M,fm s.disk.files (fileN p.1.base)=some (rowS p.2,(((rowS p.2).length:Nat):Int))
 last:∃ q:Nat,fm s.disk.files (fileN g.base)=some (rowS l,((q:Nat):Int))∧(rowS (l.take (s.sure-g.base).toNat)).length<=q∧q<=(rowS l).length
 lo:g.base<=s.sure
 only:s.disk.down=false->∀ n,fm s.disk.files n≠none->rel f s n
variable {k u:Nat} {f:Int} {S:Txt} {l0:List Pr} {s:Sto} {M:List SR} {g:Seg} {l:List Rec}
variable {k u:Nat} {f:Int} {S:Txt} {l0:List Pr} {s:Sto} {M:List SR} {g:Seg} {l:List Rec}
def WR (f:Int) (S:Txt) (l0:List Pr) (s:Sto) (R:List Rec):Prop:=∃ M g l,W f S l0 s M g l∧iM (M++[(g,l)])=R
def Pi (l:List Pr):Prop:=l.Pairwise fun a b=>a.key<b.key
end Go.Proofs.YtghfhomfppbooaaGreat
