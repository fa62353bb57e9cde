import Derived.Test.YtghfhomfppbooaaGreatT04
import Derived.Test.YtghfhomfppbooaaGreatVid
set_option linter.unusedSimpArgs false
set_option linter.unusedVariables false
namespace Go.Proofs.YtghfhomfppbooaaGreat
open Go.Vi
set_option maxRecDepth 8000 in
set_option maxHeartbeats 2000000 in
theorem rmanPut_spec (m:Man) (hm:m.ok):call 64 [.agg m.l] []=some (.tup [(false,[.d (.s (manPut m).1)]),(false,[.d (.i .i64 (manPut m).2)])],[]):=by
 have hr:=rmanRight_spec m hm.len;unfold manPut;cases c:manB m with
 | false =>
  rw[c] at hr;apply enterS s64 rfl;simp only[Man.l] at hr;(simp(disch:=first|decide|omega|(intros;exact Eq.trans rfl rfl)|simp only[puri]) only[a64,Man.l,hr,go_sem,seval,dis])
  try simp[trim]
 | true =>
  rw[c] at hr;have hb:=manBody_len c;obtain⟨h1,h2,h3,h4⟩:=manB_t c;have hmem:=incB_mem _ _ h3;have hsum:=hm.sum;have hf:call 113 [.one (.d (.i .u32 m.sum))] []=some (vs (four (sumM m)),[]):=by
   have:=refFour_spec (sumM m);have e:(((sumM m).toNat:Nat):Int)=m.sum:=by unfold sumM;simp;omega
   rw[e] at this;exact this
  have hp:=refPutFrame_spec (manBody m) (by omega)
  unfold putV at hp;rw[if_pos ⟨hb.1,by omega⟩] at hp
  have q1:=refPutN (n:=m.ver) (by omega) (by omega)
  have q2:=refPutN (n:=(m.segs.length:Int)) (by omega) (by omega)
  rw[Int.toNat_natCast] at q2;have q3:=refPutN (n:=m.size) (by omega) (by omega)
  have l1:=(enc9 (n:=m.ver.toNat) (by omega)).2
  have l2:=(enc9 (n:=m.segs.length) (by omega)).2
  have l3:=(enc9 (n:=m.size.toNat) (by omega)).2
  unfold manText;have hbd:manBody m=((enc128 m.ver.toNat++enc128 m.segs.length)++numsE m.segs++enc128 m.size.toNat)++four (sumM m):=by
   unfold manBody;simp[numsE,List.append_assoc]
  rw[hbd] at hp hb ⊢;have h4l:=four_len (sumM m);generalize four (sumM m)=F4 at *;obtain⟨ver,segs,size,sum⟩:=m;simp only[Man.l] at *;apply enterS s64 rfl;obtain⟨W,hW⟩:∃ W:Txt,W=frameF (((enc128 ver.toNat++enc128 segs.length)++numsE segs++enc128 size.toNat)++F4):=⟨_,rfl⟩;rw[<- hW] at hp ⊢;have l12:(enc128 ver.toNat).length+(enc128 segs.length).length<=9223372036854775807:=by omega
  (simp(disch:=first|decide|omega|(intros;exact Eq.trans rfl rfl)|simp only[puri]) only[a64,hr,q1,q2,l12,go_sem,seval,dis])
  refine loop_boxM (m:=0) (σ:=Nat) (fun i=>segs.length-i) (fun i=>i<=segs.length) (fun i=>[V.one (.p 0 0),vs ((enc128 ver.toNat++enc128 segs.length)++numsE (segs.take i)),vi i])
   (fun _=>[.cells [.d (.i .i64 ver),.d (.l (segs.map eI)),.d (.i .i64 size),.d (.i .u32 sum)]]) (fun _=>(V.tup [(false,[.d (.s W)]),(false,[.d (.i .i64 0)])],[])) ?_ 0 (Nat.zero_le _) _ _ ?_
  rotate_left
  ·have e:(enc128 ver.toNat++enc128 segs.length)++numsE (segs.take 0)=enc128 ver.toNat++enc128 segs.length:=by simp[numsE]
   rw[e];exact hdM
  intro i hi R hR;have hln:=numsE_len (segs.take i) (fun n hn=>by have:=hmem n (List.mem_of_mem_take hn);omega)
  have hti:(segs.take i).length=i:=by simp;omega
  rw[hti] at hln;by_cases c5:i<segs.length
  ·have g1:(segs.map eI)[i]?=some (eI segs[i]):=by simp[c5]
   have hmi:=hmem _ (List.getElem_mem c5);have q4:=refPutN (n:=segs[i]) (by omega) (by omega)
   have l4:=(enc9 (n:=segs[i].toNat) (by omega)).2
   have hR':=hR (i+1) (by omega) (by omega)
   have e1:numsE (segs.take (i+1))=numsE (segs.take i)++enc128 segs[i].toNat:=by
    rw[List.take_succ_eq_append_getElem c5,numsE_app];simp[numsE]
   rw[e1,<- List.append_assoc] at hR';obtain⟨P,hP⟩:∃ P:Txt,P=(enc128 ver.toNat++enc128 segs.length)++numsE (segs.take i):=⟨_,rfl⟩;have hPl:P.length+(enc128 segs[i].toNat).length<=9223372036854775807:=by rw[hP,List.length_append,List.length_append];omega
   rw[<- hP] at hR' ⊢;(simp(disch:=first|decide|omega|(intros;exact Eq.trans rfl rfl)|simp only[puri]) only[a64_0,g1,eI_len,eI_at,q4,hPl,go_sem,seval,dis])
   exact hR' _ _ hdM
  ·have hin:i=segs.length:=by omega
   subst hin;rw[List.take_length] at hln ⊢;obtain⟨P,hP⟩:∃ P:Txt,P=(enc128 ver.toNat++enc128 segs.length)++numsE segs:=⟨_,rfl⟩;have hPl:P.length+(enc128 size.toNat).length<=9223372036854775807:=by rw[hP,List.length_append,List.length_append];omega
   have hPl2:(P++enc128 size.toNat).length+F4.length<=9223372036854775807:=by rw[hP,List.length_append,List.length_append,List.length_append];omega
   rw[<- hP] at hp ⊢;obtain⟨P2,hP2⟩:∃ P2:Txt,P2=P++enc128 size.toNat:=⟨_,rfl⟩;rw[<- hP2] at hp hPl2;(simp(disch:=first|decide|omega|(intros;exact Eq.trans rfl rfl)|simp only[puri]) only[a64_0,q3,hPl,<- hP2,hPl2,hf,hp,go_sem,seval,dis])
   try simp[trim]
theorem read_has (l:List Fil) (n:Txt):(readF l n).2=0↔hasF l n=true:=by
 unfold readF hasF;cases l[posF l n]? with
 | none=>simp
 | some f =>
  simp only[];by_cases h:f.name=n
  ·simp[h]
  ·simp[h]
def tailT (tx:Txt) (d:Dsk):Dsk × Int :=
 let c:=chgF d (crtR d.files [110])
 if c.2≠0 then c else
  let p:=chgF c.1 (appR c.1.files c.1.cap [110] tx)
  if p.2=9 then(let x:=chgF p.1 (delR p.1.files [110]);if x.2=0 then(x.1,9) else x) else
   if p.2≠0 then p else
    let y:=chgF p.1 (synR p.1.files [110])
    if y.2≠0 then y else chgF y.1 (renR y.1.files [110] [109])
def rswapT (m:Man) (d:Dsk):Dsk × Int :=
 if(manPut m).2≠0 then(d,(manPut m).2) else
  if hasF d.files [110]=true then(let x:=chgF d (delR d.files [110]);if x.2≠0 then x else tailT (manPut m).1 x.1) else tailT (manPut m).1 d
theorem stp_no {s:Dsk × Int} (h:s.2≠0) (f:Dsk->Dsk × Int):stp s f=s:=by unfold stp;rw[if_neg h]
theorem stp_ye (d:Dsk) (f:Dsk->Dsk × Int):stp (d,0) f=f d:=by unfold stp;rw[if_pos rfl]
theorem pair_eta {s:Dsk × Int} {e:Int} (h:s.2=e):s=(s.1,e):=by rw[<- h]
theorem tail_eq (tx:Txt) (d:Dsk):(if(crtS [110] (d,0)).2≠0 then crtS [110] (d,0) else renS [110] [109] (synS [110] (unlS [110] (appS [110] tx (crtS [110] (d,0))))))=tailT tx d:=by
 unfold tailT;have e0:crtS [110] (d,0)=chgF d (crtR d.files [110]):=stp_ye _ _;rw[e0];simp only[];generalize chgF d (crtR d.files [110])=c;by_cases h1:c.2=0
 ·rw[if_neg (by simp[h1]),if_neg (by simp[h1]),pair_eta h1]
  have e1:appS [110] tx (c.1,0)=chgF c.1 (appR c.1.files c.1.cap [110] tx):=stp_ye _ _;rw[e1];simp only[];generalize chgF c.1 (appR c.1.files c.1.cap [110] tx)=p;by_cases h2:p.2=9
  ·rw[if_pos h2];unfold unlS;rw[if_neg (by simp[h2])]
   have e2:delS [110] (p.1,0)=chgF p.1 (delR p.1.files [110]):=stp_ye _ _;rw[e2];generalize chgF p.1 (delR p.1.files [110])=x;by_cases h3:x.2=0
   ·rw[if_pos h3];rfl
   ·rw[if_neg h3];unfold renS synS;rw[stp_no (s:=x) h3,stp_no h3]
  ·rw[if_neg h2];unfold unlS;rw[if_pos h2];by_cases h3:p.2=0
   ·rw[if_neg (by simp[h3]),pair_eta h3]
    have e2:synS [110] (p.1,0)=chgF p.1 (synR p.1.files [110]):=stp_ye _ _;rw[e2];simp only[];generalize chgF p.1 (synR p.1.files [110])=y;by_cases h4:y.2=0
    ·rw[if_neg (by simp[h4]),pair_eta h4]
     exact stp_ye _ _
    ·rw[if_pos h4];exact stp_no h4 _
   ·rw[if_pos h3];unfold renS synS;rw[stp_no h3,stp_no h3]
 ·rw[if_pos h1,if_pos h1]
theorem swap_eq (m:Man) (d:Dsk):swapS m (d,0)=rswapT m d:=by
 unfold swapS rswapT;simp only[if_true];by_cases h1:(manPut m).2=0
 ·rw[if_neg (c:=(manPut m).2≠0) (by simp[h1])]
  by_cases h2:hasF d.files [110]=true
  ·rw[if_pos h2,if_pos ((read_has _ _).2 h2),h1];have e0:delS [110] (d,0)=chgF d (delR d.files [110]):=stp_ye _ _;rw[e0];generalize chgF d (delR d.files [110])=x;by_cases h3:x.2=0
   ·rw[if_neg (c:=x.2≠0) (by simp[h3]),pair_eta h3];exact tail_eq _ _
   ·rw[if_pos (c:=x.2≠0) h3];have e1:crtS [110] x=x:=stp_no h3 _;simp only[e1];rw[if_pos (c:=x.2≠0) h3]
  ·rw[if_neg h2,if_neg (fun h=>h2 ((read_has _ _).1 h)),h1]
   exact tail_eq _ _
 ·rw[if_pos h1];have e0:delS [110] (d,(manPut m).2)=(d,(manPut m).2):=stp_no h1 _;rw[e0,ite_self];have e1:crtS [110] (d,(manPut m).2)=(d,(manPut m).2):=stp_no h1 _;rw[e1,if_pos h1]
set_option maxRecDepth 8000 in
set_option maxHeartbeats 2000000 in
theorem rswap_spec (d:Dsk) {k u:Nat} (hd:okN k u d) (hk:k<=900000) (hu:u<=900000000000) (m:Man) (hm:m.ok):call 78 [.agg d.l,.agg m.l] []=some (dskV (swapS m (d,0)),[]):=by
 rw[swap_eq];have q0:=rmanPut_spec m hm;have hpl:=manPut_len m;unfold rswapT;generalize manPut m=p0 at *;obtain⟨tx,pe⟩:=p0;obtain⟨mv,ms,mz,mm⟩:=m;have q1:=rfind_spec d (Nat.le_trans hd.len (by omega)) hd.srt [110]
 have q2:=rdelete_spec d (hd.ok (by omega) (by omega)) [110]
 have k1:okN k u (chgF d (delR d.files [110])).1:=del_okN (s:=(d,0)) hd [110];simp only[Man.l] at q0 hpl ⊢;apply enterS s78 rfl;by_cases c0:pe=0
 ·subst c0;rw[if_neg (by simp)]
  cases c1:hasF d.files [110] with
  | true =>
   rw[if_pos rfl];rw[findI_yes c1] at q1;generalize posF d.files [110]=pp at *;generalize chgF d (delR d.files [110])=x at *;by_cases c2:x.2=0
   ·rw[if_neg (by simp[c2])]
    rw[pair_eta c2] at q2;generalize x.1=y at *;have t1:=rcreate_spec y (k1.ok (by omega) (by omega)) [110]
    have k2:=crt_ok (s:=(y,0)) k1 [110];have ec:crtS [110] (y,0)=chgF y (crtR y.files [110]):=stp_ye _ _;rw[ec] at k2;unfold tailT;simp only[];generalize chgF y (crtR y.files [110])=c at *;by_cases c3:c.2=0
    ·rw[if_neg (by simp[c3])]
     have t2:=rappend_spec c.1 (k2.ok (by omega) (by omega)) [110] tx (by omega)
     have k3:=app_ok (s:=(c.1,0)) k2 [110] tx;have ea:appS [110] tx (c.1,0)=chgF c.1 (appR c.1.files c.1.cap [110] tx):=stp_ye _ _;rw[ea] at k3;generalize chgF c.1 (appR c.1.files c.1.cap [110] tx)=p at *;have t3:=rdelete_spec p.1 (k3.ok (by omega) (by omega)) [110]
     have t4:=rsync_spec p.1 (k3.ok (by omega) (by omega)) [110]
     have k4:=syn_ok (s:=(p.1,0)) k3 [110];have es:synS [110] (p.1,0)=chgF p.1 (synR p.1.files [110]):=stp_ye _ _;rw[es] at k4;generalize chgF p.1 (delR p.1.files [110])=r at *;generalize chgF p.1 (synR p.1.files [110])=w at *;have t5:=rrename_spec w.1 (k4.ok (by omega) (by omega)) [110] [109]
     generalize chgF w.1 (renR w.1.files [110] [109])=v at *;obtain⟨⟨f1,cp1,ar1,lf1,dn1⟩,e1⟩:=c;obtain⟨⟨f2,cp2,ar2,lf2,dn2⟩,e2⟩:=p;obtain⟨⟨f3,cp3,ar3,lf3,dn3⟩,e3⟩:=r;obtain⟨⟨f4,cp4,ar4,lf4,dn4⟩,e4⟩:=w;obtain⟨⟨f5,cp5,ar5,lf5,dn5⟩,e5⟩:=v;obtain⟨fy,cpy,ary,lfy,dny⟩:=y;obtain⟨fl,cp,ar,lf,dn⟩:=d;simp only[dskV,Dsk.l] at q1 q2 t1 t2 t3 t4 t5 c3 ⊢;subst c3;by_cases c4:e2=9
     ·subst c4;rw[if_pos rfl];by_cases c5:e3=0
      ·subst c5;(simp(disch:=first|decide|omega|(intros;exact Eq.trans rfl rfl)|simp only[puri]) only[wkf,a78,q0,q1,q2,t1,t2,t3,go_sem,seval,dis])
       try simp[trim]
      ·(simp(disch:=first|decide|omega|(intros;exact Eq.trans rfl rfl)|simp only[puri]) only[wkf,a78,q0,q1,q2,t1,t2,t3,c5,go_sem,seval,dis])
       try simp[trim,c5]
     ·rw[if_neg c4];by_cases c5:e2=0
      ·subst c5;by_cases c6:e4=0
       ·subst c6;(simp(disch:=first|decide|omega|(intros;exact Eq.trans rfl rfl)|simp only[puri]) only[wkf,a78,q0,q1,q2,t1,t2,t4,t5,go_sem,seval,dis])
        try simp[trim]
       ·(simp(disch:=first|decide|omega|(intros;exact Eq.trans rfl rfl)|simp only[puri]) only[wkf,a78,q0,q1,q2,t1,t2,t4,c6,go_sem,seval,dis])
        try simp[trim,c6]
      ·(simp(disch:=first|decide|omega|(intros;exact Eq.trans rfl rfl)|simp only[puri]) only[wkf,a78,q0,q1,q2,t1,t2,c4,c5,go_sem,seval,dis])
       try simp[trim,c4,c5]
    ·rw[if_pos c3];obtain⟨⟨f1,cp1,ar1,lf1,dn1⟩,e1⟩:=c;obtain⟨fy,cpy,ary,lfy,dny⟩:=y;obtain⟨fl,cp,ar,lf,dn⟩:=d;simp only[dskV,Dsk.l] at q1 q2 t1 c3 ⊢;(simp(disch:=first|decide|omega|(intros;exact Eq.trans rfl rfl)|simp only[puri]) only[wkf,a78,q0,q1,q2,t1,c3,go_sem,seval,dis])
     try simp[trim,c3]
   ·rw[if_pos c2];obtain⟨⟨fx,cpx,arx,lfx,dnx⟩,ex⟩:=x;obtain⟨fl,cp,ar,lf,dn⟩:=d;simp only[dskV,Dsk.l] at q1 q2 c2 ⊢;(simp(disch:=first|decide|omega|(intros;exact Eq.trans rfl rfl)|simp only[puri]) only[wkf,a78,q0,q1,q2,c2,go_sem,seval,dis])
    try simp[trim,c2]
  | false =>
   rw[if_neg (by simp)]
   rw[findI_no c1] at q1;clear q2 k1;have k1:=hd;obtain⟨y,hy⟩:∃ y,y=d:=⟨_,rfl⟩;have q2:True:=trivial;rw[<- hy] at k1;have hyd:tailT tx d=tailT tx y:=by rw[hy]
   rw[hyd];have t1:=rcreate_spec y (k1.ok (by omega) (by omega)) [110]
   have k2:=crt_ok (s:=(y,0)) k1 [110];have ec:crtS [110] (y,0)=chgF y (crtR y.files [110]):=stp_ye _ _;rw[ec] at k2;unfold tailT;simp only[];generalize chgF y (crtR y.files [110])=c at *;by_cases c3:c.2=0
   ·rw[if_neg (by simp[c3])]
    have t2:=rappend_spec c.1 (k2.ok (by omega) (by omega)) [110] tx (by omega)
    have k3:=app_ok (s:=(c.1,0)) k2 [110] tx;have ea:appS [110] tx (c.1,0)=chgF c.1 (appR c.1.files c.1.cap [110] tx):=stp_ye _ _;rw[ea] at k3;generalize chgF c.1 (appR c.1.files c.1.cap [110] tx)=p at *;have t3:=rdelete_spec p.1 (k3.ok (by omega) (by omega)) [110]
    have t4:=rsync_spec p.1 (k3.ok (by omega) (by omega)) [110]
    have k4:=syn_ok (s:=(p.1,0)) k3 [110];have es:synS [110] (p.1,0)=chgF p.1 (synR p.1.files [110]):=stp_ye _ _;rw[es] at k4;generalize chgF p.1 (delR p.1.files [110])=r at *;generalize chgF p.1 (synR p.1.files [110])=w at *;have t5:=rrename_spec w.1 (k4.ok (by omega) (by omega)) [110] [109]
    generalize chgF w.1 (renR w.1.files [110] [109])=v at *;obtain⟨⟨f1,cp1,ar1,lf1,dn1⟩,e1⟩:=c;obtain⟨⟨f2,cp2,ar2,lf2,dn2⟩,e2⟩:=p;obtain⟨⟨f3,cp3,ar3,lf3,dn3⟩,e3⟩:=r;obtain⟨⟨f4,cp4,ar4,lf4,dn4⟩,e4⟩:=w;obtain⟨⟨f5,cp5,ar5,lf5,dn5⟩,e5⟩:=v;subst hy;obtain⟨fl,cp,ar,lf,dn⟩:=y;simp only[dskV,Dsk.l] at q1 t1 t2 t3 t4 t5 c3 ⊢;subst c3;by_cases c4:e2=9
    ·subst c4;rw[if_pos rfl];by_cases c5:e3=0
     ·subst c5;(simp(disch:=first|decide|omega|(intros;exact Eq.trans rfl rfl)|simp only[puri]) only[wkf,a78,q0,q1,t1,t2,t3,go_sem,seval,dis])
      try simp[trim]
     ·(simp(disch:=first|decide|omega|(intros;exact Eq.trans rfl rfl)|simp only[puri]) only[wkf,a78,q0,q1,t1,t2,t3,c5,go_sem,seval,dis])
      try simp[trim,c5]
    ·rw[if_neg c4];by_cases c5:e2=0
     ·subst c5;by_cases c6:e4=0
      ·subst c6;(simp(disch:=first|decide|omega|(intros;exact Eq.trans rfl rfl)|simp only[puri]) only[wkf,a78,q0,q1,t1,t2,t4,t5,go_sem,seval,dis])
       try simp[trim]
      ·(simp(disch:=first|decide|omega|(intros;exact Eq.trans rfl rfl)|simp only[puri]) only[wkf,a78,q0,q1,t1,t2,t4,c6,go_sem,seval,dis])
       try simp[trim,c6]
     ·(simp(disch:=first|decide|omega|(intros;exact Eq.trans rfl rfl)|simp only[puri]) only[wkf,a78,q0,q1,t1,t2,c4,c5,go_sem,seval,dis])
      try simp[trim,c4,c5]
   ·rw[if_pos c3];obtain⟨⟨f1,cp1,ar1,lf1,dn1⟩,e1⟩:=c;subst hy;obtain⟨fl,cp,ar,lf,dn⟩:=y;simp only[dskV,Dsk.l] at q1 t1 c3 ⊢;(simp(disch:=first|decide|omega|(intros;exact Eq.trans rfl rfl)|simp only[puri]) only[wkf,a78,q0,q1,t1,c3,go_sem,seval,dis])
    try simp[trim,c3]
 ·rw[if_pos c0];obtain⟨fl,cp,ar,lf,dn⟩:=d;simp only[dskV,Dsk.l] at ⊢;(simp(disch:=first|decide|omega|(intros;exact Eq.trans rfl rfl)|simp only[puri]) only[wkf,a78,q0,c0,go_sem,seval,dis])
  try simp[trim,c0]
theorem rlast_spec (s:Sto) (g:Seg) (hl:s.segs.length<=1000000) (hg:s.segs.getLast?=some g) (hb:0<=g.base∧g.base<=1099511627776):call 47 [.agg s.l] []=some (vs (fileN g.base),[]):=by
 have q:=rseg_spec hb;apply enterS s47 rfl;obtain⟨⟨fl,cp,ar,lf,dn⟩,ver,segs,next,sure,size,sum⟩:=s;simp only at hg hl;have h0:0<segs.length:=by cases segs <;> simp_all
 have h2:((segs.length:Int)-1).toNat=segs.length-1:=by omega
 have g1:(segs.map Seg.enc)[segs.length-1]?=some g.enc:=by rw[List.getElem?_map,<- List.getLast?_eq_getElem?,hg];rfl
 generalize fileN g.base=N at *;obtain⟨gb,gn,gz⟩:=g;simp only[Seg.enc] at g1 q;(simp(disch:=first|decide|omega|(intros;exact Eq.trans rfl rfl)|simp only[puri]) only[a47,Sto.l,Dsk.l,h2,g1,q,go_sem,seval,dis])
 try simp[trim]
theorem rsync_sto {k u:Nat} (s:Sto) (h:okS k u s) (hk:k<=800000) (hu:u<=800000000000):call 72 [.agg s.l] []=some (stoV (syncT s),[]):=by
 have q1:=rlast_spec s s.last (by have:=h.len;omega) (last_q h.len.1) (h.seg _ (last_mem h.len.1)).1
 have q3:=rsync_spec s.disk (h.dsk.ok (by omega) (by omega)) (fileN s.last.base)
 apply enterS s72 rfl;unfold syncT;simp only[];generalize chgF s.disk (synR s.disk.files (fileN s.last.base))=r at *;generalize fileN s.last.base=N at *;obtain⟨⟨fl,cp,ar,lf,dn⟩,ver,segs,next,sure,size,sum⟩:=s;obtain⟨⟨f2,cp2,ar2,lf2,dn2⟩,e2⟩:=r;simp only[Sto.l,Dsk.l,dskV,List.cons_append,List.nil_append] at q1 q3 ⊢;by_cases c:e2=0
 ·subst c;(simp(disch:=first|decide|omega|(intros;exact Eq.trans rfl rfl)|simp only[puri]) only[wkf,a72,q1,q3,stoV,Sto.l,Dsk.l,go_sem,seval,dis,vdr,A.kind,A.xs,optX,A.isN])
  try simp[trim]
 ·(simp(disch:=first|decide|omega|(intros;exact Eq.trans rfl rfl)|simp only[puri]) only[wkf,a72,q1,q3,c,stoV,Sto.l,Dsk.l,go_sem,seval,dis,vdr,A.kind,A.xs,optX,A.isN])
  try simp[trim,c]
theorem rnew_eq (d:Dsk):createT d=(let c:=chgF d (crtR d.files (fileN 0));if c.2≠0 then(⟨c.1,0,[],0,0,0,0⟩,c.2) else
  let w:=swapS ⟨1,[0],0,0⟩ (c.1,0);if w.2≠0 then(⟨w.1,0,[],0,0,0,0⟩,w.2) else(⟨w.1,1,[⟨0,0,0⟩],0,0,0,0⟩,0)):=by
 unfold createT;have e0:crtS (fileN 0) (d,0)=chgF d (crtR d.files (fileN 0)):=stp_ye _ _;rw[e0];simp only[];generalize chgF d (crtR d.files (fileN 0))=c;by_cases h:c.2=0
 ·rw[if_pos h,if_neg (show ¬ (c.2≠0) from by simp[h]),<- pair_eta h]
  generalize swapS ⟨1,[0],0,0⟩ c=w;by_cases h2:w.2=0
  ·simp[h2]
  ·simp[h2]
 ·simp[h]
set_option maxRecDepth 8000 in
theorem rnew_spec {k u:Nat} (d:Dsk) (hd:okN k u d) (hk:k<=800000) (hu:u<=800000000000):call 61 [.agg d.l] []=some (stoV (createT d),[]):=by
 rw[rnew_eq];have q1:=rseg_spec (n:=0) ⟨by decide,by decide⟩
 have q2:=rcreate_spec d (hd.ok (by omega) (by omega)) (fileN 0)
 have k1:okN (k+1) u (chgF d (crtR d.files (fileN 0))).1:=by
  have:=crt_ok (s:=(d,0)) hd (fileN 0);exact this
 have q3:=fun dd:Dsk=>rman_spec ⟨dd,1,[⟨0,0,0⟩],0,0,0,0⟩ (by simp)
 simp only[];generalize chgF d (crtR d.files (fileN 0))=c at *;have q3:=q3 c.1;have q4:=rswap_spec c.1 k1 (by omega) (by omega) ⟨1,[0],0,0⟩ ⟨by simp,by simp⟩
 generalize swapS ⟨1,[0],0,0⟩ (c.1,0)=w at *;apply enterS s61 rfl;generalize fileN 0=N at *;obtain⟨fl,cp,ar,lf,dn⟩:=d;obtain⟨⟨f1,cp1,ar1,lf1,dn1⟩,e1⟩:=c;obtain⟨⟨f3,cp3,ar3,lf3,dn3⟩,e3⟩:=w;simp only[dskV,Dsk.l,Sto.l,Seg.enc,Sto.man,Man.l,List.cons_append,List.nil_append,List.map_cons,List.map_nil,eI] at q1 q2 q3 q4 ⊢;by_cases c1:e1=0
 ·subst c1;by_cases c3:e3=0
  ·subst c3;(simp(disch:=first|decide|omega|(intros;exact Eq.trans rfl rfl)|simp only[puri]) only[wkf,a61,q1,q2,↓iso_callzA_e,czKA_a,splitS,allD,czR_some,q3,q4,go_sem,seval,dis,vdr,A.kind,A.xs,optX,A.isN])
   try simp[trim,stoV,Sto.l,Dsk.l,Seg.enc]
  ·(simp(disch:=first|decide|omega|(intros;exact Eq.trans rfl rfl)|simp only[puri]) only[wkf,a61,q1,q2,↓iso_callzA_e,czKA_a,splitS,allD,czR_some,q3,q4,c3,go_sem,seval,dis,vdr,A.kind,A.xs,optX,A.isN])
   try simp[trim,stoV,Sto.l,Dsk.l,Seg.enc,c3]
 ·(simp(disch:=first|decide|omega|(intros;exact Eq.trans rfl rfl)|simp only[puri]) only[wkf,a61,q1,q2,c1,go_sem,seval,dis,vdr,A.kind,A.xs,optX,A.isN])
  try simp[trim,stoV,Sto.l,Dsk.l,Seg.enc,c1]
def rrollD (s:Sto):Dsk × Int :=
 let c:=chgF s.disk (crtR s.disk.files (fileN s.next))
 if c.2≠0 then c else
  let w:=swapS (rollX s).man (c.1,0)
  if w.2=9 then(let r:=chgF w.1 (delR w.1.files (fileN s.next));if r.2=0 then(r.1,9) else r) else w
theorem rrollD_eq (s:Sto):rollD s=rrollD s:=by
 unfold rollD rrollD;have e0:crtS (fileN s.next) (s.disk,0)=chgF s.disk (crtR s.disk.files (fileN s.next)):=stp_ye _ _;rw[e0];simp only[];generalize chgF s.disk (crtR s.disk.files (fileN s.next))=c;by_cases h:c.2=0
 ·rw[if_pos h,if_neg (show ¬ (c.2≠0) from by simp[h]),<- pair_eta h]
  generalize swapS (rollX s).man c=w;unfold unlS;have e1:delS (fileN s.next) (w.1,0)=chgF w.1 (delR w.1.files (fileN s.next)):=stp_ye _ _;rw[e1];by_cases h2:w.2=9
  ·simp[h2]
  ·simp[h2]
 ·simp[h]
set_option maxRecDepth 8000 in
set_option maxHeartbeats 2000000 in
theorem rroll_spec {k u:Nat} (s:Sto) (h:okS k u s) (hk:k<=800000) (hu:u<=800000000000):call 44 [.agg s.l] []=some (stoV (rollT s),[]):=by
 have q1:=rsync_sto s h hk hu;have h1:=syncT_ok h;have hsl:(syncT s).1.segs=s.segs:=rfl;apply enterS s44 rfl;unfold rollT;by_cases c0:64<=s.segs.length
 ·rw[if_pos c0];obtain⟨⟨fl,cp,ar,lf,dn⟩,ver,segs,next,sure,size,sum⟩:=s;simp only at c0;have c1:(64:Int)<=segs.length:=by omega
  (simp(disch:=first|decide|omega|(intros;exact Eq.trans rfl rfl)|simp only[puri]) only[wkf,a44,c1,stoV,Sto.l,Dsk.l,go_sem,seval,dis])
  try simp[trim]
 ·rw[if_neg c0];have c1:¬ (64:Int)<=s.segs.length:=by omega
  rw[<- hsl] at c1;generalize syncT s=r at *;obtain⟨s1,e1⟩:=r;simp only at q1 h1 hsl c1 ⊢;by_cases c2:e1=0
  ·subst c2;rw[if_neg (by simp),rrollD_eq]
   have q2:=rseg_spec h1.next;have q3:=rcreate_spec s1.disk (h1.dsk.ok (by omega) (by omega)) (fileN s1.next)
   have k1:okN (k+1) u (chgF s1.disk (crtR s1.disk.files (fileN s1.next))).1:=by
    have:=crt_ok (s:=(s1.disk,0)) h1.dsk (fileN s1.next);exact this
   have hxl:(rollX s1).segs.length<=1000000:=by have:=h1.len;show(s1.segs++[_]).length<=_;simp;omega
   have q4:=fun d:Dsk=>rman_spec { rollX s1 with disk:=d } hxl
   unfold rrollD;simp only[];generalize chgF s1.disk (crtR s1.disk.files (fileN s1.next))=c at *;have q4:=q4 c.1;have q5:=rswap_spec c.1 k1 (by omega) (by omega) (rollX s1).man ⟨by have:=h1.len;show((s1.segs++[_]).map _).length<=_;simp;omega,h1.sum⟩
   have k2:okN (k+1+1) (u+800) (swapS (rollX s1).man (c.1,0)).1:=swap_okN (s:=(c.1,0)) k1 _;generalize swapS (rollX s1).man (c.1,0)=w at *;have q6:=rdelete_spec w.1 (k2.ok (by omega) (by omega)) (fileN s1.next)
   generalize chgF w.1 (delR w.1.files (fileN s1.next))=t at *;generalize fileN s1.next=N at *;obtain⟨⟨fl,cp,ar,lf,dn⟩,ver,segs,next,sure,size,sum⟩:=s;obtain⟨⟨fl1,cp1,ar1,lf1,dn1⟩,ver1,segs1,next1,sure1,size1,sum1⟩:=s1;obtain⟨⟨fl2,cp2,ar2,lf2,dn2⟩,e2⟩:=c;obtain⟨⟨fl3,cp3,ar3,lf3,dn3⟩,e3⟩:=w;obtain⟨⟨fl4,cp4,ar4,lf4,dn4⟩,e4⟩:=t;simp only at hsl;subst hsl;have hver:=h1.ver;have hlen:=h1.len;simp only[dskV,Dsk.l,Sto.l,Sto.man,rollX,Man.l,stoV,List.cons_append,List.nil_append,List.map_cons,List.map_nil,List.map_append,Seg.enc] at q1 q2 q3 q4 q5 q6 c1 hver hlen ⊢;have hok:okRows 3 (segs1.map Seg.enc)=true:=okRows_map Seg.len segs1;have hsm:(segs1.map Seg.enc).length=segs1.length:=by simp
   obtain⟨SQ,hSQ⟩:∃ SQ,segs1.map Seg.enc=SQ:=⟨_,rfl⟩;rw[hSQ] at hok hsm q1 q4 ⊢;have hsl2:SQ.length<=64:=by omega
   have htk:(SQ++[[D.i .i64 next1,D.i .i64 0,D.i .i64 0]]).take (segs1.length+1)=SQ++[[D.i .i64 next1,D.i .i64 0,D.i .i64 0]]:=List.take_of_length_le (by simp;omega)
   have c1':¬ (64:Int)<=SQ.length:=by omega
   rw[<- hsm] at htk;by_cases c3:e2=0
   ·subst c3;by_cases c4:e3=9
    ·subst c4;by_cases c5:e4=0
     ·subst c5;(simp(disch:=first|decide|omega|(intros;exact Eq.trans rfl rfl)|simp only[puri]) only[wkf,a44,q1,c1',hver,q2,q3,hok,htk,↓iso_callzA_e,czKA_a,splitS,allD,czR_some,q4,q5,q6,go_sem,seval,dis,vdr,A.kind,A.xs,optX,A.isN])
      try simp[trim,hSQ]
     ·(simp(disch:=first|decide|omega|(intros;exact Eq.trans rfl rfl)|simp only[puri]) only[wkf,a44,q1,c1',hver,q2,q3,hok,htk,↓iso_callzA_e,czKA_a,splitS,allD,czR_some,q4,q5,q6,c5,go_sem,seval,dis,vdr,A.kind,A.xs,optX,A.isN])
      try simp[trim,hSQ,c5]
    ·by_cases c5:e3=0
     ·subst c5;(simp(disch:=first|decide|omega|(intros;exact Eq.trans rfl rfl)|simp only[puri]) only[wkf,a44,q1,c1',hver,q2,q3,hok,htk,↓iso_callzA_e,czKA_a,splitS,allD,czR_some,q4,q5,go_sem,seval,dis,vdr,A.kind,A.xs,optX,A.isN])
      simp[trim,hSQ,Seg.enc,c4]
     ·(simp(disch:=first|decide|omega|(intros;exact Eq.trans rfl rfl)|simp only[puri]) only[wkf,a44,q1,c1',hver,q2,q3,hok,htk,↓iso_callzA_e,czKA_a,splitS,allD,czR_some,q4,q5,c4,c5,go_sem,seval,dis,vdr,A.kind,A.xs,optX,A.isN])
      simp[trim,hSQ,c4,c5]
   ·(simp(disch:=first|decide|omega|(intros;exact Eq.trans rfl rfl)|simp only[puri]) only[wkf,a44,q1,c1',hver,q2,q3,c3,go_sem,seval,dis,vdr,A.kind,A.xs,optX,A.isN])
    simp[trim,hSQ,c3]
  ·rw[if_pos c2];obtain⟨⟨fl,cp,ar,lf,dn⟩,ver,segs,next,sure,size,sum⟩:=s;obtain⟨⟨fl1,cp1,ar1,lf1,dn1⟩,ver1,segs1,next1,sure1,size1,sum1⟩:=s1;simp only at hsl;subst hsl;simp only[Dsk.l,Sto.l,stoV,List.cons_append,List.nil_append] at q1 c1 ⊢;(simp(disch:=first|decide|omega|(intros;exact Eq.trans rfl rfl)|simp only[puri]) only[wkf,a44,q1,c1,c2,go_sem,seval,dis,vdr,A.kind,A.xs,optX,A.isN])
   try simp[trim]
theorem putF_why {r:Rec} (h:whyF r≠0):(putF r).2≠0:=by unfold putF;rw[if_neg h];exact h
set_option maxRecDepth 8000 in
set_option maxHeartbeats 2000000 in
theorem rappend_tail {k u:Nat} (s t:Sto) (h:okS k u s) (ht:okS k u t) (hn:t.next<1099511627776) (hk:k<=800000) (hu:u<=800000000000) (seg:Int) (r:Rec) (tx:Txt) (hx:tx.length<=90)
  (q0:call 43 [.agg (r.enc.map .d)] []=some (vb true,[]))
  (q1:call 45 [.agg (r.enc.map .d)] []=some (.tup [(false,[.d (.s tx)]),(false,[.d (.i .i64 0)])],[])) (c2:r.at_=s.next) (c3:s.next<1099511627776)
  (hc:(seg<=s.last.size∧rollT s=(t,0))∨(¬ seg<=t.last.size∧t=s)) :
  call 21 [.agg s.l,vi seg,.agg (r.enc.map .d)] []=some (stoV (putT t tx),[]):=by
 have q3:=rroll_spec s h hk hu;have q5:=rlast_spec t t.last (by have:=ht.len;omega) (last_q ht.len.1) (ht.seg _ (last_mem ht.len.1)).1
 have q7:=rappend_spec t.disk (ht.dsk.ok (by omega) (by omega)) (fileN t.last.base) tx (by omega)
 have hsz:=(ht.seg _ (last_mem ht.len.1)).2;have hlen:=ht.len;have hlens:=h.len;have hnx:=ht.next;have hsp:t.segs.map Seg.enc=t.segs.dropLast.map Seg.enc++[t.last.enc]:=by
  have hne:t.segs≠[]:=by intro e;rw[e] at hlen;simp at hlen
  have e:t.segs=t.segs.dropLast++[t.segs.getLast hne]:=(List.dropLast_concat_getLast hne).symm;have e2:t.last=t.segs.getLast hne:=by unfold Sto.last;rw[List.getLastD_eq_getLast?,List.getLast?_eq_some_getLast hne];rfl
  rw[e2];conv=>lhs;rw[e]
  rw[List.map_append];rfl
 have hsl:(s.segs.map Seg.enc)[s.segs.length-1]?=some s.last.enc:=by rw[List.getElem?_map,<- List.getLast?_eq_getElem?,last_q hlens.1];rfl
 have hok:=okRows_map Seg.len t.segs;have hQ:(t.segs.dropLast.map Seg.enc).length=t.segs.length-1:=by simp
 have hks:((s.segs.length:Int)-1)=((s.segs.length-1:Nat):Int):=by omega
 have hkt:((t.segs.length:Int)-1)=((t.segs.length-1:Nat):Int):=by omega
 unfold putT addSeg;simp only[];generalize chgF t.disk (appR t.disk.files t.disk.cap (fileN t.last.base) tx)=d at *;generalize fileN t.last.base=N at *;generalize t.last=g at *;generalize s.last=g0 at *;generalize rollT s=rr at *;obtain⟨b,n,z⟩:=g;obtain⟨b0,n0,z0⟩:=g0;obtain⟨⟨fl,cp,ar,lf,dn⟩,ver,segs,next,sure,size,sum⟩:=s;obtain⟨⟨fl1,cp1,ar1,lf1,dn1⟩,ver1,segs1,next1,sure1,size1,sum1⟩:=t;obtain⟨⟨fl2,cp2,ar2,lf2,dn2⟩,e2⟩:=d;obtain⟨at_,ti,da⟩:=r;simp only[Rec.enc,Seg.enc,List.map_cons,List.map_nil,Sto.l,Dsk.l,dskV,List.cons_append,List.nil_append] at q0 q1 q3 q5 q7 c2 c3 hn hsz hlen hlens hnx hsp hsl hok hQ hks hkt hc ⊢;subst c2;have c3':¬ 1099511627776<=at_:=by omega
 have hfin:({ disk:=⟨fl2,cp2,ar2,lf2,dn2⟩,ver:=ver1,segs:=segs1.dropLast++[⟨b,n+1,z+tx.length⟩],next:=next1+1,sure:=sure1,size:=size1,sum:=sum1 }:Sto).segs.map Seg.enc=segs1.dropLast.map Seg.enc++[[D.i .i64 b,D.i .i64 (n+1),D.i .i64 (z+tx.length)]]:=by simp[Seg.enc]
 generalize segs1.dropLast.map Seg.enc=Q at *;have hml:(segs1.map Seg.enc).length=segs1.length:=by simp
 have hl1:segs1.length=Q.length+1:=by omega
 have hkt1:((Q.length+1:Nat):Int)-1=(Q.length:Nat):=by omega
 have hkt2:((Q.length:Nat):Int)+1-1=(Q.length:Nat):=by omega
 have hat:∀ x:List D,(Q++[x])[Q.length]?=some x:=fun x=>by simp
 have hst:∀ x y:List D,(Q++[x]).set Q.length y=Q++[y]:=fun x y=>by simp
 rw[hsp] at hok q5;have hql:Q.length<=64:=by omega
 have htk:∀ x:List D,(Q++[x]).take (Q.length+1)=Q++[x]:=fun x=>List.take_of_length_le (by simp)
 apply enterS s21 rfl;rcases hc with⟨c4,rfl⟩|⟨c4,he⟩
 ·simp only[stoV,Sto.l,Dsk.l,List.cons_append,List.nil_append] at q3;rw[hsp] at q3;by_cases c5:e2=0
  ·subst c5;(simp(disch:=first|decide|omega|(intros;exact Eq.trans rfl rfl)|simp only[puri]) only[wkf,a21,q0,q1,c3',hks,hsl,c4,q3,q5,q7,hok,hkt1,hkt2,hat,hst,hql,htk,List.length_append,List.length_cons,List.length_nil,Nat.zero_add,go_sem,seval,dis,vdr,A.kind,A.xs,optX,A.isN])
   simp only[ne_eq,not_true_eq_false,if_false,stoV,Sto.l,Dsk.l,List.cons_append,List.nil_append];simp only[] at hfin;rw[hfin]
  ·(simp(disch:=first|decide|omega|(intros;exact Eq.trans rfl rfl)|simp only[puri]) only[wkf,a21,q0,q1,c3',hks,hsl,c4,q3,q5,q7,c5,go_sem,seval,dis,vdr,A.kind,A.xs,optX,A.isN])
   simp[trim,c5,stoV,Sto.l,Dsk.l,hsp]
 ·simp only[Sto.mk.injEq,Dsk.mk.injEq] at he;obtain⟨⟨rfl,rfl,rfl,rfl,rfl⟩,rfl,rfl,rfl,rfl,rfl,rfl⟩:=he;clear q3 hsl;rw[hsp];by_cases c5:e2=0
  ·subst c5;(simp(disch:=first|decide|omega|(intros;exact Eq.trans rfl rfl)|simp only[puri]) only[wkf,a21,q0,q1,c3',c4,q5,q7,hok,hkt1,hkt2,hat,hst,hql,htk,List.length_append,List.length_cons,List.length_nil,Nat.zero_add,go_sem,seval,dis,vdr,A.kind,A.xs,optX,A.isN])
   simp only[ne_eq,not_true_eq_false,if_false,stoV,Sto.l,Dsk.l,List.cons_append,List.nil_append];simp only[] at hfin;rw[hfin]
  ·(simp(disch:=first|decide|omega|(intros;exact Eq.trans rfl rfl)|simp only[puri]) only[wkf,a21,q0,q1,c3',hkt1,hkt2,hat,c4,q5,q7,c5,List.length_append,List.length_cons,List.length_nil,Nat.zero_add,go_sem,seval,dis,vdr,A.kind,A.xs,optX,A.isN])
   simp[trim,c5,stoV,Sto.l,Dsk.l,hsp]
set_option maxRecDepth 8000 in
theorem rappend_sto {k u:Nat} (s:Sto) (h:okS k u s) (hk:k<=700000) (hu:u<=700000000000) (seg:Int) (r:Rec) (hr:r.ok):call 21 [.agg s.l,vi seg,.agg (r.enc.map .d)] []=some (stoV (appT s seg r),[]):=by
 have q1:=refPutRec_spec r hr;have hpl:=putF_len r;have e1:putR r=.tup [(false,[.d (.s (putF r).1)]),(false,[.d (.i .i64 (putF r).2)])]:=by unfold putR putF;split <;> rfl
 rw[e1] at q1;unfold appT;by_cases c1:whyF r=0
 ·have c1':(putF r).2=0:=by unfold putF;rw[if_pos c1]
  rw[c1'] at q1;have q0':=refRight_spec r;rw[decide_eq_true c1] at q0';by_cases c2:r.at_=s.next
  ·rw[if_neg (by simp[c2,c1'])]
   by_cases c3:1099511627776<=s.next
   ·rw[if_pos c3];obtain⟨⟨fl,cp,ar,lf,dn⟩,ver,segs,next,sure,size,sum⟩:=s;obtain⟨at_,ti,da⟩:=r;simp only[Rec.enc,List.map_cons,List.map_nil] at q0' c2 c3 ⊢;subst c2;apply enterS s21 rfl;(simp(disch:=first|decide|omega|(intros;exact Eq.trans rfl rfl)|simp only[puri]) only[wkf,a21,q0',c3,stoV,Sto.l,Dsk.l,go_sem,seval,dis])
    try simp[trim]
   ·rw[if_neg c3];by_cases c4:seg<=s.last.size
    ·rw[if_pos c4];by_cases c5:(rollT s).2=0
     ·rw[if_neg (by simp[c5])]
      have hn:(rollT s).1.next=s.next:=rollT_next s;exact rappend_tail (k:=k+2) (u:=u+800) s (rollT s).1 (h.up (by omega) (by omega)) (rollT_ok h) (by rw[hn];omega) (by omega) (by omega) seg r (putF r).1 hpl q0' q1 c2 (by omega) (.inl ⟨c4,by rw[<- c5]⟩)
     ·rw[if_pos c5];have q3:=rroll_spec s h (by omega) (by omega)
      have hsl:(s.segs.map Seg.enc)[s.segs.length-1]?=some s.last.enc:=by rw[List.getElem?_map,<- List.getLast?_eq_getElem?,last_q h.len.1];rfl
      have hlens:=h.len;have hks:((s.segs.length:Int)-1)=((s.segs.length-1:Nat):Int):=by omega
      generalize rollT s=t at *;generalize s.last=g at *;obtain⟨b,n,z⟩:=g;obtain⟨⟨fl,cp,ar,lf,dn⟩,ver,segs,next,sure,size,sum⟩:=s;obtain⟨⟨⟨fl1,cp1,ar1,lf1,dn1⟩,ver1,segs1,next1,sure1,size1,sum1⟩,e⟩:=t;obtain⟨at_,ti,da⟩:=r;simp only[Rec.enc,Seg.enc,List.map_cons,List.map_nil,Sto.l,Dsk.l,stoV,List.cons_append,List.nil_append] at q0' q3 c2 c3 c4 c5 hsl hks hlens ⊢;subst c2;apply enterS s21 rfl;(simp(disch:=first|decide|omega|(intros;exact Eq.trans rfl rfl)|simp only[puri]) only[wkf,a21,q0',c3,hks,hsl,c4,q3,c5,go_sem,seval,dis])
      try simp[trim,c5]
    ·rw[if_neg c4];exact rappend_tail (k:=k) (u:=u) s s h h (by omega) (by omega) (by omega) seg r (putF r).1 hpl q0' q1 c2 (by omega) (.inr ⟨c4,rfl⟩)
  ·rw[if_pos (.inr c2)];obtain⟨⟨fl,cp,ar,lf,dn⟩,ver,segs,next,sure,size,sum⟩:=s;obtain⟨at_,ti,da⟩:=r;simp only[Rec.enc,List.map_cons,List.map_nil] at q0' c2 ⊢;apply enterS s21 rfl;(simp(disch:=first|decide|omega|(intros;exact Eq.trans rfl rfl)|simp only[puri]) only[wkf,a21,q0',c2,stoV,Sto.l,Dsk.l,go_sem,seval,dis])
   try simp[trim]
 ·rw[if_pos (.inl (putF_why c1))];have q0':=refRight_spec r;rw[decide_eq_false c1] at q0';obtain⟨⟨fl,cp,ar,lf,dn⟩,ver,segs,next,sure,size,sum⟩:=s;obtain⟨at_,ti,da⟩:=r;simp only[Rec.enc,List.map_cons,List.map_nil] at q0' ⊢;apply enterS s21 rfl;(simp(disch:=first|decide|omega|(intros;exact Eq.trans rfl rfl)|simp only[puri]) only[wkf,a21,q0',stoV,Sto.l,Dsk.l,go_sem,seval,dis])
  try simp[trim]
theorem ne_self (n:Int):(n != n)=false:=by simp
theorem neb_self (n:Bool):(n != n)=false:=by simp
set_option maxRecDepth 8000 in
theorem same06_spec (d:Dsk) (hl:d.files.length<=1000000):call 37 [.agg d.l,.agg d.l] []=some (vb true,[]):=by
 apply enterS s37 rfl;obtain⟨fl,cp,ar,lf,dn⟩:=d;simp only at hl;(simp(disch:=first|decide|omega|(intros;exact Eq.trans rfl rfl)|simp only[puri]) only[wkf,a37,Dsk.l,ne_self,neb_self,go_sem,seval,dis])
 refine loop_boxM (m:=0) (σ:=Nat) (fun i=>fl.length-i) (fun i=>i<=fl.length) (fun i=>[V.one (.p 0 0),V.one (.p 1 0),vi i])
  (fun _=>[.cells [.d (.l (fl.map Fil.enc)),.d (.i .i64 cp),.d (.b ar),.d (.i .i64 lf),.d (.b dn)],.cells [.d (.l (fl.map Fil.enc)),.d (.i .i64 cp),.d (.b ar),.d (.i .i64 lf),.d (.b dn)]]) (fun _=>(vb true,[])) ?_ 0 (Nat.zero_le _) _ _ ?_
 rotate_left
 ·exact hdM
 intro i hi R hR;by_cases c:i<fl.length
 ·have ci:(i:Int)<(fl.length:Int):=by omega
  have g1:(fl.map Fil.enc)[i]?=some fl[i].enc:=by simp[c]
  have hq:=Fil.eqs fl[i] fl[i];rw[decide_eq_true rfl] at hq;generalize fl[i]=f at *;obtain⟨fn,fd,fs⟩:=f;simp only[Fil.enc,List.map_cons,List.map_nil] at g1 hq;(simp(disch:=first|decide|omega|(intros;exact Eq.trans rfl rfl)|simp only[puri]) only[wkf,a37_0,ci,g1,hq,go_sem,seval,dis])
  exact hR (i+1) (by omega) (by omega) _ _ hdM
 ·have ci:¬ (i:Int)<(fl.length:Int):=by omega
  (simp(disch:=first|decide|omega|(intros;exact Eq.trans rfl rfl)|simp only[puri]) only[wkf,a37_0,ci,go_sem,seval,dis])
  try simp[trim]
set_option maxRecDepth 8000 in
theorem same12_spec (s:Sto) (hf:s.disk.files.length<=1000000) (hl:s.segs.length<=1000000):call 12 [.agg s.l,.agg s.l] []=some (vb true,[]):=by
 have q:=same06_spec s.disk hf;apply enterS s12 rfl;obtain⟨⟨fl,cp,ar,lf,dn⟩,ver,segs,next,sure,size,sum⟩:=s;simp only[Dsk.l] at hl q;(simp(disch:=first|decide|omega|(intros;exact Eq.trans rfl rfl)|simp only[puri]) only[wkf,a12,Sto.l,Dsk.l,q,ne_self,neb_self,go_sem,seval,dis])
 refine loop_boxM (m:=0) (σ:=Nat) (fun i=>segs.length-i) (fun i=>i<=segs.length) (fun i=>[V.one (.p 0 0),V.one (.p 1 0),vi i])
  (fun _=>[.cells [.d (.l (fl.map Fil.enc)),.d (.i .i64 cp),.d (.b ar),.d (.i .i64 lf),.d (.b dn),.d (.i .i64 ver),.d (.l (segs.map Seg.enc)),.d (.i .i64 next),.d (.i .i64 sure),.d (.i .i64 size),.d (.i .u32 sum)],.cells [.d (.l (fl.map Fil.enc)),.d (.i .i64 cp),.d (.b ar),.d (.i .i64 lf),.d (.b dn),.d (.i .i64 ver),.d (.l (segs.map Seg.enc)),.d (.i .i64 next),.d (.i .i64 sure),.d (.i .i64 size),.d (.i .u32 sum)]]) (fun _=>(vb true,[])) ?_ 0 (Nat.zero_le _) _ _ ?_
 rotate_left
 ·exact hdM
 intro i hi R hR;by_cases c:i<segs.length
 ·have ci:(i:Int)<(segs.length:Int):=by omega
  have g1:(segs.map Seg.enc)[i]?=some segs[i].enc:=by simp[c]
  have hq:=Seg.eqs segs[i] segs[i];rw[decide_eq_true rfl] at hq;generalize segs[i]=f at *;obtain⟨fb,fn,fs⟩:=f;simp only[Seg.enc,List.map_cons,List.map_nil] at g1 hq;(simp(disch:=first|decide|omega|(intros;exact Eq.trans rfl rfl)|simp only[puri]) only[wkf,a12_0,ci,g1,hq,go_sem,seval,dis])
  exact hR (i+1) (by omega) (by omega) _ _ hdM
 ·have ci:¬ (i:Int)<(segs.length:Int):=by omega
  (simp(disch:=first|decide|omega|(intros;exact Eq.trans rfl rfl)|simp only[puri]) only[wkf,a12_0,ci,go_sem,seval,dis])
  try simp[trim]
def sumF (f:Seg->Int):List Seg->Int
 | []=>0
 | g::r=>f g+sumF f r
def muchF (l:List Seg) (keep count:Int):Bool:=decide (1<l.length) && (decide (keep<sumF Seg.size (l.take (l.length-1))) || decide (count<sumF Seg.n l))
def segsB (l:List Seg):Prop:=l.length<=1000∧∀ g∈l,(0<=g.n∧g.n<=(1000000000000:Nat))∧(0<=g.size∧g.size<=(1000000000000:Nat))
theorem segsB.take {l:List Seg} (h:segsB l) (k:Nat):segsB (l.take k):=⟨Nat.le_trans (List.length_take_le' _ _) h.1,fun g hg=>h.2 g (List.mem_of_mem_take hg)⟩
theorem segsB.drop {l:List Seg} (h:segsB l) (k:Nat):segsB (l.drop k):=⟨Nat.le_trans (by simp) h.1,fun g hg=>h.2 g (List.mem_of_mem_drop hg)⟩
def stayF (l:List Seg) (keep count:Int) (k:Nat):Bool := !muchF (l.drop k) keep count
def pickF (l:List Seg) (keep count:Int):Nat:=match (List.range l.length).find? (stayF l keep count) with|some k=>k|none=>0
theorem pickF_lt (l:List Seg) (keep count:Int) (h:pickF l keep count≠0):pickF l keep count<l.length:=by
 unfold pickF at *;cases hf:(List.range l.length).find? (stayF l keep count) with
 | none=>rw[hf] at h;exact absurd rfl h
 | some k=>simpa using List.mem_of_find?_eq_some hf
def Sto.scans (s:Sto):List SR:=s.segs.map fun g=>(g,(scanS (s.txt g) g.base).1.map (·.1))
def snapN (n:Int):Txt:=nameF 116 n.toNat
theorem snap_int {n:Int} (h:0<=n∧n<=1099511627776):call 105 [vi n] []=some (vs (snapN n),[]):=by
 apply enterS s105 rfl;have h1:=name_spec 116 n.toNat (by omega)
 have e:(((116:UInt8).toNat:Nat):Int)=116:=rfl;have e2:((n.toNat:Nat):Int)=n:=by omega
 rw[e,e2] at h1;have e3:snapN n=nameF 116 n.toNat:=rfl;rw[e3];(simp(disch:=first|decide|omega|(intros;exact Eq.trans rfl rfl)|simp only[puri]) only[a105,h1,go_sem,seval,dis])
 try simp[trim]
theorem rsnap_int {n:Int} (h:0<=n∧n<=1099511627776):call 30 [vi n] []=some (vs (snapN n),[]):=by
 have h1:=digits_spec n.toNat (by omega)
 have e:((n.toNat:Nat):Int)=n:=by omega
 rw[e] at h1;have e2:snapN n=116::tailN n.toNat 13:=by
  unfold snapN nameF tailN;congr 1
 have hl:(tailN n.toNat 13).length=13:=by simp[tailN]
 rw[e2];generalize tailN n.toNat 13=T at *;have c1:¬ n<0:=by omega
 have c2:¬ (1099511627776:Int)<n:=by omega
 apply enterS s30 rfl;(simp(disch:=first|decide|omega|(intros;exact Eq.trans rfl rfl)|simp only[puri]) only[a30,c1,c2,h1,hl,go_sem,seval,dis])
 try simp[trim]
theorem floor_ok {k u:Nat} {s:Sto} (h:okS k u s):0<=s.floor∧s.floor<=1099511627776:=by
 have:=h.len;unfold Sto.floor;split
 ·omega
 ·rename_i g r he;exact(h.seg g (by rw[he];simp)).1
def snapT (s:Sto):Txt:=if s.floor=0 then[] else(readF s.disk.files (snapN s.floor)).1
theorem why_len {r:Rec} (h:whyF r=0):r.da.length<=64:=by
 unfold whyF at h;split at h
 ·split at h
  ·assumption
  ·exact absurd h (by decide)
 ·exact absurd h (by decide)
def dataT (s:Sto) (off:Int):List UInt8:=if off<0∨s.next<=off then[] else match (recsM s.scans).find? (fun r=>decide (r.at_=off)) with
 | some r=>r.da
 | none=>[]
theorem tw_filt (P Q:Pr->Bool) (h:∀ p,P p=true->Q p=false):∀ l:List Pr,(l.takeWhile P).length+(l.filter Q).length<=l.length
 | []=>by simp
 | x::r=>by
  rw[List.takeWhile_cons,List.filter_cons];by_cases hp:P x=true
  ·have hq:=h x hp;have:=tw_filt P Q h r;simp[hp,hq];omega
  ·have h2:(r.filter Q).length<=r.length:=List.length_filter_le _ _;rw[if_neg hp];by_cases hq:Q x=true <;> simp[hq] <;> omega
theorem step_len (l:List Pr) (d:List UInt8):(stepF l d).length<=l.length+1:=by
 cases d with
 | nil=>simp[stepF]
 | cons c r =>
  have h1:=tw_filt (fun p=>decide (p.key<(c.toNat:Int))) (fun p=>decide ((c.toNat:Int)<p.key)) (fun p hp=>by simp at hp ⊢;omega) l
  simp only[stepF,List.length_append];split <;> simp at h1 ⊢ <;> omega
def okP (l:List Pr):Prop:=∀ p∈l,(0<=p.key∧p.key<256)∧p.val.length<=64
theorem step_ok {l:List Pr} (h:okP l) {d:List UInt8} (hd:d.length<=64):okP (stepF l d):=by
 cases d with
 | nil=>exact h
 | cons c r =>
  intro p hp;simp only[stepF,List.mem_append] at hp;rcases hp with(hp|hp)|hp
  ·exact h p ((List.takeWhile_sublist _).subset hp)
  ·split at hp
   ·cases hp
   ·rw[List.mem_singleton] at hp;subst hp;have:=UInt8.toNat_lt c;simp at hd;exact⟨⟨by simp only[];omega,by simp only[];omega⟩,by simp only[];omega⟩
  ·exact h p (List.mem_filter.1 hp).1
theorem pars_ok (s:List UInt8):∀ (n a:Nat) (out:List Pr) (r:List Pr × Nat),parsF s n a out=some r->(∀ p∈out,0<=p.key∧p.key<256)->(∀ p∈r.1,0<=p.key∧p.key<256)∧r.1.length=out.length+n
 | 0,a,out,r,h,ho=>by simp only[parsF] at h;cases h;exact⟨ho,rfl⟩
 | n+1,a,out,r,h,ho=>by
  simp only[parsF] at h;split at h
  ·rename_i p b hp;have hk:0<=p.key∧p.key<256:=by
    unfold pairF at hp;split at hp
    ·split at hp
     ·cases hp
     ·cases hp;have:=UInt8.toNat_lt (s[a]?.getD 0);exact⟨by simp only[];omega,by simp only[];omega⟩
    ·cases hp
   have:=pars_ok s n b (out++[p]) r h (fun q hq=>by
    rcases List.mem_append.1 hq with hq|hq
    ·exact ho q hq
    ·rw[List.mem_singleton.1 hq];exact hk)
   refine⟨this.1,?_⟩;rw[this.2];simp;omega
  ·cases h
theorem right_val {l:List Pr} (h:rightF l=true):∀ p∈l,p.val.length<=64:=by
 intro p hp;obtain⟨i,hi,rfl⟩:=List.getElem_of_mem hp;have:=(List.all_eq_true.1 h) i (by simpa using hi)
 simp only[atOk,List.getElem?_eq_getElem hi,prOk,Bool.and_eq_true,decide_eq_true_eq] at this;omega
theorem parse_ok {s:List UInt8} {l:List Pr} (h:parseF s=some l):okP l∧l.length<=256:=by
 unfold parseF at h;split at h
 ·rename_i n k _;split at h
  ·cases h
  ·rename_i hn;unfold endF at h;split at h
   ·rename_i out a ho;split at h
    ·rename_i hc;cases h;have:=pars_ok s n k [] _ ho (fun p hp=>by cases hp)
     have hv:=right_val hc.2;refine⟨fun p hp=>⟨this.1 p hp,hv p hp⟩,?_⟩
     rw[this.2];simp;omega
    ·cases h
   ·cases h
 ·cases h
def runF (s:Sto):Nat->Int->List Pr->List Pr
 | 0,_,l=>l
 | n+1,i,l=>runF s n (i+1) (stepF l (dataT s i))
def stateT (s:Sto) (off:Int):List Pr:=runF s (off-s.floor).toNat s.floor ((parseF (snapT s)).getD [])
def sumT (x:Txt):Int:=(((crcOn 0#32 x).toNat:Nat):Int)
def layT (d:Dsk) (n x:Txt) (m:Man):Dsk × Int :=
 let a:=crtS n (d,0)
 let b:=if a.2=0 then unlS n (appS n x a) else a
 let c:=synS n b
 if c.2=0 then unlS n (swapS m c) else c
def delsF (l:List Seg) (s:Dsk × Int):Dsk × Int:=l.foldl (fun s g=>delS (fileN g.base) s) s
def oldT (s:Sto) (k:Nat) (q:Dsk × Int):Dsk × Int :=
 let r:=delsF (s.segs.take k) q
 if r.2=0∧0<s.floor then delS (snapN s.floor) r else r
def baseF (l:List Seg) (k:Nat):Int:=match l[k]? with|some g=>g.base|none=>0
def trimX (s:Sto) (k:Nat):Sto:={ s with ver:=s.ver+1,segs:=s.segs.drop k,size:=((bytesF (stateT s (baseF s.segs k))).length:Nat),sum:=sumT (bytesF (stateT s (baseF s.segs k))) }
def trimK (s:Sto) (k:Nat):Sto × Int :=
 let e:=layT s.disk (snapN (baseF s.segs k)) (bytesF (stateT s (baseF s.segs k))) (trimX s k).man
 if e.2≠0 then({ s with disk:=e.1 },e.2) else({ trimX s k with disk:=(oldT s k e).1 },(oldT s k e).2)
def trimT (s:Sto) (keep count:Int):Sto × Int:=if pickF s.segs keep count=0 then(s,0) else trimK s (pickF s.segs keep count)
theorem enc_len9 (n:Nat) (h:n<9223372036854775808):(enc128 n).length<=9:=nd_le9 h
theorem bytes_len {l:List Pr} (h:okP l) (hl:l.length<=1000000):(bytesF l).length<=9+74*l.length:=by
 have h1:∀ l:List Pr,okP l->(l.flatMap prB).length<=74*l.length:=by
  intro l;induction l with
  | nil=>intro _;simp
  | cons p r ih =>
   intro h;have hp:=(h p (by simp)).2
   have hr:=ih (fun q hq=>h q (by simp[hq]))
   have he:=enc_len9 p.val.length (by omega)
   rw[List.flatMap_cons,List.length_append];simp only[prB,List.length_cons,List.length_append];omega
 have h2:=h1 l h;have h3:=enc_len9 l.length (by omega)
 unfold bytesF;rw[List.length_append];omega
theorem base_at {l:List Seg} {k:Nat} (h:k<l.length):l[k]?=some l[k]∧baseF l k=l[k].base:=by
 have e:l[k]?=some l[k]:=List.getElem?_eq_getElem h;exact⟨e,by unfold baseF;rw[e]⟩
theorem base_ok {k u:Nat} {s:Sto} (h:okS k u s) {n:Nat} (hn:n<s.segs.length):0<=baseF s.segs n∧baseF s.segs n<=1099511627776:=by
 rw[(base_at hn).2];exact(h.seg _ (List.getElem_mem hn)).1
theorem okS.segsB {k u:Nat} {s:Sto} (h:okS k u s) (hu:u<=1000000):segsB s.segs :=
 ⟨by have:=h.len;omega,fun g hg=>by have:=h.seg g hg;omega⟩
abbrev FM:=Txt->Option (Txt × Int)
def fm (l:List Fil):FM:=fun n=>(l.find? fun f=>decide (f.name=n)).map fun f=>(f.data,f.sure)
def up (F:FM) (n:Txt) (v:Option (Txt × Int)):FM:=fun k=>if k=n then v else F k
theorem up_at (F:FM) (n:Txt) (v:Option (Txt × Int)):up F n v n=v:=if_pos rfl
theorem up_ne (F:FM) {n k:Txt} (v:Option (Txt × Int)) (h:k≠n):up F n v k=F k:=if_neg h
theorem up_up (F:FM) (n:Txt) (v w:Option (Txt × Int)):up (up F n v) n w=up F n w:=by
 funext k;unfold up;split <;> rfl
theorem up_self {F:FM} {n:Txt} {v:Option (Txt × Int)} (h:F n=v):up F n v=F:=by
 funext k;unfold up;split
 ·rename_i e;rw[e,h]
 ·rfl
theorem fm_none {l:List Fil} {n:Txt}:fm l n=none↔∀ f∈l,f.name≠n:=by
 unfold fm;rw[Option.map_eq_none_iff,List.find?_eq_none];simp
theorem fm_mid (A:List Fil) (x:Fil) (B:List Fil) (h:∀ a∈A,a.name≠x.name):fm (A++x::B)=up (fm (A++B)) x.name (some (x.data,x.sure)):=by
 funext k
 unfold fm up;simp only[List.find?_append,List.find?_cons];by_cases c:k=x.name
 ·have hn:A.find? (fun f=>decide (f.name=k))=none:=by
   rw[List.find?_eq_none];intro a ha;simpa[c] using h a ha
  rw[if_pos c,hn];simp[c]
 ·rw[if_neg c];have:decide (x.name=k)=false:=by simpa using fun e=>c e.symm
  rw[this]
theorem srt_mid {l:List Fil} (hs:srt l) {i:Nat} (hi:i<l.length):(∀ a∈l.take i,a.name≠l[i].name)∧(∀ b∈l.drop (i+1),b.name≠l[i].name):=by
 constructor
 ·intro a ha;obtain⟨j,hj,rfl⟩:=List.getElem_of_mem ha;rw[List.length_take] at hj;rw[List.getElem_take];exact bl_ne ((List.pairwise_iff_getElem.1 hs) j i (by omega) hi (by omega))
 ·intro b hb;obtain⟨j,hj,rfl⟩:=List.getElem_of_mem hb;rw[List.length_drop] at hj;rw[List.getElem_drop];exact fun e=>bl_ne ((List.pairwise_iff_getElem.1 hs) i (i+1+j) hi (by omega) (by omega)) e.symm
theorem cut_mid (l:List Fil) {i:Nat} (hi:i<l.length):l=l.take i++l[i]::l.drop (i+1):=by
 conv=>lhs;rw[<- List.take_append_drop i l,List.drop_eq_getElem_cons hi]
theorem fm_cut {l:List Fil} (hs:srt l) {i:Nat} (hi:i<l.length):fm l=up (fm (delF l i)) l[i].name (some (l[i].data,l[i].sure))∧fm (delF l i) l[i].name=none:=by
 have h:=srt_mid hs hi;constructor
 ·conv=>lhs;rw[cut_mid l hi]
  exact fm_mid _ _ _ h.1
 ·rw[fm_none];intro f hf;rcases List.mem_append.1 hf with hf|hf
  ·exact h.1 f hf
  ·exact h.2 f hf
theorem fm_del {l:List Fil} (hs:srt l) {i:Nat} (hi:i<l.length):fm (delF l i)=up (fm l) l[i].name none:=by
 have h:=fm_cut hs hi;rw[h.1,up_up,up_self h.2]
theorem fm_set {l:List Fil} (hs:srt l) {i:Nat} (hi:i<l.length) (g:Fil) (hg:g.name=l[i].name):fm (l.set i g)=up (fm l) l[i].name (some (g.data,g.sure)):=by
 have h:=srt_mid hs hi;have e:l.set i g=l.take i++g::l.drop (i+1):=by rw[List.set_eq_take_append_cons_drop,if_pos hi]
 rw[e,fm_mid _ _ _ (fun a ha=>by rw[hg];exact h.1 a ha),hg]
 have h2:=fm_cut hs hi;rw[h2.1,up_up];try rfl
theorem fm_has {l:List Fil} (hs:srt l) (n:Txt):hasF l n=(fm l n).isSome:=by
 cases h:hasF l n with
 | true =>
  obtain⟨hp,he⟩:=has_at h;rw[(fm_cut hs hp).1,he,up_at];rfl
 | false =>
  rw[fm_none.2 (has_false hs h)];rfl
theorem fm_pos {l:List Fil} (hs:srt l) {n:Txt} {v:Txt × Int} (h:fm l n=some v):∃ hp:posF l n<l.length,l[posF l n].name=n∧(l[posF l n].data,l[posF l n].sure)=v:=by
 have h1:hasF l n=true:=by rw[fm_has hs,h];rfl
 obtain⟨hp,he⟩:=has_at h1;refine⟨hp,he,?_⟩;have h2:=(fm_cut hs hp).1;rw[h2,he,up_at] at h;exact Option.some.inj h
theorem fm_read {l:List Fil} (hs:srt l) (n:Txt):readF l n=match fm l n with|some v=>(v.1,0)|none=>([],7):=by
 cases h:fm l n with
 | some v =>
  obtain⟨hp,he,hv⟩:=fm_pos hs h;subst hv;unfold readF;rw[List.getElem?_eq_getElem hp];simp only[if_pos he]
 | none =>
  have h1:hasF l n=false:=by rw[fm_has hs,h];rfl
  unfold readF;unfold hasF at h1;split
  ·rename_i f hf;rw[hf] at h1;rw[if_neg (by simpa using h1)]
  ·rfl
theorem fm_hasD {l:List Fil} (hs:srt l) (n d:Txt):hasD l n d↔∃ q,fm l n=some (d,q):=by
 constructor
 ·rintro⟨f,hf,rfl,rfl⟩;obtain⟨i,hi,rfl⟩:=List.getElem_of_mem hf;exact⟨l[i].sure,by rw[(fm_cut hs hi).1,up_at]⟩
 ·rintro⟨q,h⟩;obtain⟨hp,he,hv⟩:=fm_pos hs h;exact⟨l[posF l n],List.getElem_mem hp,he,congrArg Prod.fst hv⟩
theorem fm_ins {l:List Fil} (hs:srt l) {n:Txt} (d:Txt) (q:Int) (h:fm l n=none):fm (insF l (posF l n) ⟨n,d,q⟩)=up (fm l) n (some (d,q)):=by
 have h2:=fm_none.1 h;unfold insF;rw[fm_mid _ _ _ (fun a ha=>h2 a (List.mem_of_mem_take ha)),List.take_append_drop]
theorem fm_put {l:List Fil} (hs:srt l) (f:Fil):fm (putAt l f)=up (fm l) f.name (some (f.data,f.sure)):=by
 unfold putAt;split
 ·rename_i h;obtain⟨hp,he⟩:=has_at h;rw[fm_set hs hp f he.symm,he]
 ·rename_i h;have h1:fm l f.name=none:=by
   cases hf:fm l f.name with
   | none=>rfl
   | some v=>exact absurd (by rw[fm_has hs,hf];rfl) h
  obtain⟨n,d,q⟩:=f;exact fm_ins hs d q h1
structure Dk (d d':Dsk):Prop where
 cap:d'.cap=d.cap
 armed:d'.armed=d.armed
 down:d.down=true->d'=d
 idle:d.armed=false->d.down=false->d'.down=false∧d'.left=d.left
theorem Dk.refl (d:Dsk):Dk d d:=⟨rfl,rfl,fun _=>rfl,fun _ h=>⟨h,rfl⟩⟩
theorem Dk.trans {a b c:Dsk} (h1:Dk a b) (h2:Dk b c):Dk a c :=
  ⟨h2.cap.trans h1.cap,h2.armed.trans h1.armed,fun h=>by have e:=h1.down h;rw[h2.down (by rw[e];exact h),e],
   fun ha hd=>by
    have e1:=h1.idle ha hd
    have e2:=h2.idle (h1.armed.trans ha) e1.1
    exact⟨e2.1,e2.2.trans e1.2⟩⟩
def Out (d:Dsk) (r:Dsk × Int) (X:List Txt) (G:FM) (G9:Option FM):Prop :=
 Dk d r.1∧srt r.1.files∧((r.2=0∧r.1.down=false∧fm r.1.files=G)∨(∃ g,G9=some g∧r.2=9∧r.1.down=false∧fm r.1.files=g)∨(r.2=10∧r.1.down=true∧∀ n,n ∉ X->fm r.1.files n=fm d.files n))
theorem Out.up9 {d:Dsk} {r:Dsk × Int} {X:List Txt} {G:FM} (h:Out d r X G none) (g:Option FM):Out d r X G g:=by
 refine⟨h.1,h.2.1,?_⟩;rcases h.2.2 with h|⟨_,h,_⟩|h
 ·exact .inl h
 ·cases h
 ·exact .inr (.inr h)
theorem chg_out {d:Dsk} (hs:srt d.files) {r:List Fil × Int} {G:FM} (h0:r.2=0) (h1:srt r.1) (h2:fm r.1=G):Out d (chgF d r) [] G none:=by
 unfold chgF;split
 ·rename_i hd;exact⟨Dk.refl d,hs,.inr (.inr ⟨rfl,hd,fun _ _=>rfl⟩)⟩
 ·rename_i hd;have hd:d.down=false:=by simpa using hd
  rw[if_neg (by simp[h0])]
  split
  ·rename_i ha;split
   ·exact⟨⟨rfl,rfl,fun h=>(by rw[hd] at h;cases h),fun h _=>(by rw[ha] at h;cases h)⟩,hs,.inr (.inr ⟨rfl,rfl,fun _ _=>rfl⟩)⟩
   ·exact⟨⟨rfl,rfl,fun h=>(by rw[hd] at h;cases h),fun h _=>(by rw[ha] at h;cases h)⟩,h1,.inl ⟨rfl,hd,h2⟩⟩
  ·exact⟨⟨rfl,rfl,fun h=>(by rw[hd] at h;cases h),fun _ h=>⟨h,rfl⟩⟩,h1,.inl ⟨rfl,hd,h2⟩⟩
theorem crt_out {d:Dsk} (hs:srt d.files) {n:Txt} (hn:namedF n=true) (h:fm d.files n=none):Out d (chgF d (crtR d.files n)) [] (up (fm d.files) n (some ([],0))) none:=by
 have hf:hasF d.files n=false:=by rw[fm_has hs,h];rfl
 have e:crtR d.files n=(insF d.files (posF d.files n) ⟨n,[],0⟩,0):=by unfold crtR;rw[if_pos hn,hf];rfl
 rw[e];exact chg_out hs rfl (srt_ins hs ⟨n,[],0⟩ hf) (fm_ins hs [] 0 h)
theorem upd_fm {l:List Fil} (hs:srt l) {n:Txt} {v:Txt × Int} (h:fm l n=some v) (f:Fil->Fil) (hf:∀ x,(f x).name=x.name) :
  srt (updF l (posF l n) f)∧fm (updF l (posF l n) f)=up (fm l) n (some ((f ⟨n,v.1,v.2⟩).data,(f ⟨n,v.1,v.2⟩).sure)):=by
 obtain⟨hp,he,hv⟩:=fm_pos hs h;refine⟨srt_names (upd_names l _ f hf) hs,?_⟩;have e2:l[posF l n]=⟨n,v.1,v.2⟩:=by
  generalize l[posF l n]=x at *;obtain⟨a,b,c⟩:=x;simp only at he hv;subst he hv;try rfl
 rw[upd_at hp,fm_set hs hp _ (by rw[hf]),he,e2]
theorem app_out {d:Dsk} (hs:srt d.files) {n:Txt} (x:Txt) {v:Txt × Int} (h:fm d.files n=some v):Out d (chgF d (appR d.files d.cap n x)) [] (up (fm d.files) n (some (v.1++x,v.2))) (some (fm d.files)):=by
 have hf:hasF d.files n=true:=by rw[fm_has hs,h];rfl
 by_cases c:0<d.cap∧d.cap-(usedF d.files:Nat)<x.length
 ·have e:appR d.files d.cap n x=([],9):=by unfold appR;rw[if_pos hf,if_pos c]
  rw[e];unfold chgF;split
  ·rename_i hd;exact⟨Dk.refl d,hs,.inr (.inr ⟨rfl,hd,fun _ _=>rfl⟩)⟩
  ·rename_i hd;rw[if_pos (by decide)]
   exact⟨Dk.refl d,hs,.inr (.inl ⟨_,rfl,rfl,by simpa using hd,rfl⟩)⟩
 ·have e:appR d.files d.cap n x=(updF d.files (posF d.files n) (fun f=>{ f with data:=f.data++x }),0):=by unfold appR;rw[if_pos hf,if_neg c]
  have hu:=upd_fm hs h (fun f=>{ f with data:=f.data++x }) (fun _=>rfl)
  rw[e];exact(chg_out hs rfl hu.1 hu.2).up9 _
theorem syn_out {d:Dsk} (hs:srt d.files) {n:Txt} {v:Txt × Int} (h:fm d.files n=some v):Out d (chgF d (synR d.files n)) [] (up (fm d.files) n (some (v.1,(v.1.length:Nat)))) none:=by
 have hf:hasF d.files n=true:=by rw[fm_has hs,h];rfl
 have e:synR d.files n=(updF d.files (posF d.files n) (fun f=>{ f with sure:=f.data.length }),0):=by unfold synR;rw[if_pos hf]
 have hu:=upd_fm hs h (fun f=>{ f with sure:=(f.data.length:Nat) }) (fun _=>rfl)
 rw[e];exact chg_out hs rfl hu.1 hu.2
theorem del_out {d:Dsk} (hs:srt d.files) {n:Txt} {v:Txt × Int} (h:fm d.files n=some v):Out d (chgF d (delR d.files n)) [] (up (fm d.files) n none) none:=by
 have hf:hasF d.files n=true:=by rw[fm_has hs,h];rfl
 have e:delR d.files n=(delF d.files (posF d.files n),0):=by unfold delR;rw[if_pos hf]
 obtain⟨hp,he⟩:=has_at hf;rw[e];exact chg_out hs rfl (srt_del hs _) (by rw[fm_del hs hp,he])
theorem ren_out {d:Dsk} (hs:srt d.files) {a b:Txt} (hb:namedF b=true) {v:Txt × Int} (h:fm d.files a=some v):Out d (chgF d (renR d.files a b)) [] (up (up (fm d.files) a none) b (some v)) none:=by
 have hf:hasF d.files a=true:=by rw[fm_has hs,h];rfl
 obtain⟨hp,he,hv⟩:=fm_pos hs h;have e:renR d.files a b=(putAt (delF d.files (posF d.files a)) (nameAt d.files (posF d.files a) b),0):=by unfold renR;rw[if_pos hf,if_pos hb]
 rw[e];refine chg_out hs rfl (srt_put (srt_del hs _) _) ?_;have e2:nameAt d.files (posF d.files a) b={ d.files[posF d.files a] with name:=b }:=by unfold nameAt;rw[List.getElem?_eq_getElem hp]
 rw[fm_put (srt_del hs _),fm_del hs hp,he,e2,<- hv]
theorem Out.seq {d:Dsk} {r1 r2:Dsk × Int} {X X1 X2:List Txt} {G1 G2:FM} {g g1 g2:Option FM} (h1:Out d r1 X1 G1 g1) (h2:r1.2=0->r1.1.down=false->fm r1.1.files=G1->srt r1.1.files->Out r1.1 r2 X2 G2 g2)
  (hG:∀ n,n ∉ X->G1 n=fm d.files n) (hx1:∀ n∈X1,n∈X) (hx2:∀ n∈X2,n∈X) (hg1:∀ q,g1=some q->g=some q) (hg2:∀ q,g2=some q->g=some q):Out d (if r1.2=0 then r2 else r1) X G2 g:=by
 obtain⟨k1,s1,o1⟩:=h1;rcases o1 with⟨e,hd,hf⟩|⟨q,hq,e,hd,hf⟩|⟨e,hd,hf⟩
 ·rw[if_pos e];obtain⟨k2,s2,o2⟩:=h2 e hd hf s1;refine⟨k1.trans k2,s2,?_⟩;rcases o2 with o2|⟨q,hq,o2⟩|⟨e2,hd2,hf2⟩
  ·exact .inl o2
  ·exact .inr (.inl ⟨q,hg2 q hq,o2⟩)
  ·refine .inr (.inr ⟨e2,hd2,fun n hn=>?_⟩)
   rw[hf2 n (fun hm=>hn (hx2 n hm)),hf]
   exact hG n hn
 ·rw[if_neg (by rw[e];decide)]
  exact⟨k1,s1,.inr (.inl ⟨q,hg1 q hq,e,hd,hf⟩)⟩
 ·rw[if_neg (by rw[e];decide)]
  exact⟨k1,s1,.inr (.inr ⟨e,hd,fun n hn=>hf n (fun hm=>hn (hx1 n hm))⟩)⟩
theorem Out.unl {d:Dsk} {r:Dsk × Int} {X:List Txt} {G g:FM} {n:Txt} {v:Txt × Int} (h:Out d r X G (some g)) (hn:g n=some v) (hg:∀ k,k ∉ X->g k=fm d.files k):Out d (unlS n r) X G (some (up g n none)):=by
 obtain⟨k1,s1,o1⟩:=h;obtain⟨r1,e⟩:=r;simp only at k1 s1 o1;rcases o1 with⟨rfl,hd,hf⟩|⟨q,hq,rfl,hd,hf⟩|⟨rfl,hd,hf⟩
 ·have:unlS n (r1,0)=(r1,0):=by unfold unlS;rw[if_pos (by simp)]
  rw[this];exact⟨k1,s1,.inl ⟨rfl,hd,hf⟩⟩
 ·cases hq;have e1:delS n (r1,0)=chgF r1 (delR r1.files n):=stp_ye _ _;have hdl:=del_out s1 (n:=n) (v:=v) (by rw[hf];exact hn)
  unfold unlS;rw[if_neg (by simp)]
  simp only[e1];generalize chgF r1 (delR r1.files n)=w at *;obtain⟨k2,s2,o2⟩:=hdl;rcases o2 with⟨e2,hd2,hf2⟩|⟨q,hq,_⟩|⟨e2,hd2,hf2⟩
  ·rw[if_pos e2];exact⟨k1.trans k2,s2,.inr (.inl ⟨_,rfl,rfl,hd2,by rw[hf2,hf]⟩)⟩
  ·cases hq
  ·rw[if_neg (by rw[e2];decide)]
   refine⟨k1.trans k2,s2,.inr (.inr ⟨e2,hd2,fun k hk=>?_⟩)⟩
   rw[hf2 k (by simp),hf]
   exact hg k hk
 ·have:unlS n (r1,10)=(r1,10):=by unfold unlS;rw[if_pos (by simp)]
  rw[this];exact⟨k1,s1,.inr (.inr ⟨rfl,hd,hf⟩)⟩
def goP (l:List Txt) (s:Dsk × Int):Dsk × Int:=l.foldl (fun s n=>delS n s) s
theorem goP_cons (n:Txt) (l:List Txt) (s:Dsk × Int):goP (n::l) s=goP l (delS n s):=rfl
theorem goP_err (l:List Txt) (s:Dsk × Int) (h:s.2≠0):goP l s=s:=by
 induction l with
 | nil=>rfl
 | cons n l ih=>rw[goP_cons,show delS n s=s from stp_no h _];exact ih
def oldN (s:Sto) (k:Nat):List Txt:=(s.segs.take k).map (fun g=>fileN g.base)++(if 0<s.floor then[snapN s.floor] else[])
theorem dels_go (l:List Seg) (q:Dsk × Int):delsF l q=goP (l.map fun g=>fileN g.base) q:=by
 unfold delsF goP;rw[List.foldl_map]
theorem old_go (s:Sto) (k:Nat) (q:Dsk × Int):oldT s k q=goP (oldN s k) q:=by
 unfold oldT oldN;simp only[];rw[dels_go];unfold goP;rw[List.foldl_append];generalize List.foldl (fun s n=>delS n s) q ((s.segs.take k).map fun g=>fileN g.base)=r
 by_cases c:0<s.floor
 ·rw[if_pos c];by_cases c2:r.2=0
  ·rw[if_pos ⟨c2,c⟩];rfl
  ·rw[if_neg (fun h=>c2 h.1)]
   show r=delS (snapN s.floor) r;exact(stp_no c2 _).symm
 ·rw[if_neg (fun h=>c h.2),if_neg c];rfl
theorem chg_down {d:Dsk} (h:d.down=true) (r:List Fil × Int):chgF d r=(d,10):=by unfold chgF;rw[if_pos h]
theorem Out.dn {d:Dsk} (hs:srt d.files) (h:d.down=true) (X:List Txt) (G:FM) (g:Option FM):Out d (d,10) X G g:=⟨Dk.refl d,hs,.inr (.inr ⟨rfl,h,fun _ _=>rfl⟩)⟩
theorem Out.eq {d:Dsk} {r:Dsk × Int} {X:List Txt} {G G':FM} {g g':Option FM} (h:Out d r X G g) (h1:G=G') (h2:g=g'):Out d r X G' g':=h1 ▸ h2 ▸ h
theorem n110 (n:Txt) (h:2<=n.length):n≠[110]:=fun e=>by rw[e] at h;simp at h
theorem pair_eq {r:Dsk × Int} (h:r.2=0):r=(r.1,0):=by rw[<- h]
def manV (m:Man):Option (Txt × Int):=some (manText m,((manText m).length:Nat))
theorem swap_out {d:Dsk} (hs:srt d.files) {m:Man} (hm:manB m=true) (hn:d.down=false->fm d.files [110]=none):Out d (swapS m (d,0)) [[110]] (up (fm d.files) [109] (manV m)) (some (fm d.files)):=by
 have hp:manPut m=(manText m,0):=by unfold manPut;rw[if_pos hm]
 by_cases hd:d.down=true
 ·have e:swapS m (d,0)=(d,10):=by
   have e1:∀ s:Dsk × Int,s=(d,0)∨s=(d,10)->crtS [110] s=(d,10):=by
    rintro s (rfl|rfl)
    ·show chgF d _=_;exact chg_down hd _
    ·rfl
   have e2:(if(readF d.files [110]).2=0 then delS [110] (d,0) else(d,0))=(d,0)∨(if(readF d.files [110]).2=0 then delS [110] (d,0) else(d,0))=(d,10):=by
    split
    ·exact .inr (chg_down hd _)
    ·exact .inl rfl
   unfold swapS;simp only[hp,if_true];rw[e1 _ e2];try rfl
  rw[e];exact .dn hs hd _ _ _
 ·have hn:=hn (by simpa using hd)
  have hr:(readF d.files [110]).2≠0:=by rw[fm_read hs,hn];decide
  have e:swapS m (d,0)=if(chgF d (crtR d.files [110])).2=0 then renS [110] [109] (synS [110] (unlS [110] (appS [110] (manText m) (chgF d (crtR d.files [110]))))) else chgF d (crtR d.files [110]):=by
   have e1:crtS [110] (d,0)=chgF d (crtR d.files [110]):=stp_ye _ _;unfold swapS;simp only[hp,if_true,if_neg hr,e1];by_cases h:(chgF d (crtR d.files [110])).2=0
   ·rw[if_neg (by simp[h]),if_pos h]
   ·rw[if_pos h,if_neg h]
  rw[e];refine Out.seq (crt_out hs (by decide) hn) (g1:=none) (g2:=some (fm d.files)) ?_ ?_ (by simp) (X2:=[[110]]) (by simp) (by simp) (by simp)
  ·intro h0 hd1 hf1 hs1;rw[pair_eq h0];generalize (chgF d (crtR d.files [110])).1=d1 at *;have ea:appS [110] (manText m) (d1,0)=chgF d1 (appR d1.files d1.cap [110] (manText m)):=stp_ye _ _;rw[ea];have h1:=app_out hs1 (manText m) (n:=[110]) (v:=([],0)) (by rw[hf1,up_at])
   have h2:=h1.unl (n:=[110]) (v:=([],0)) (by rw[hf1,up_at]) (fun _ _=>rfl)
   have h3:=Out.seq (X:=[[110]]) (g:=some (fm d.files)) h2 (r2:=synS [110] ((unlS [110] (chgF d1 (appR d1.files d1.cap [110] (manText m)))).1,0)) (X2:=[]) (G2:=up (up (fm d1.files) [110] (some ([]++manText m,0))) [110] (manV m)) (g2:=none)
    (fun h0 hd2 hf2 hs2=>(by
     have:=syn_out hs2 (n:=[110]) (v:=([]++manText m,0)) (by rw[hf2,up_at])
     rw[hf2] at this;exact this)) (fun n hn=>up_ne _ _ (by simpa using hn)) (by simp) (by simp)
    (fun q hq=>by cases hq;rw[hf1,up_up,up_self hn]) (by simp)
   have e3:synS [110] (unlS [110] (chgF d1 (appR d1.files d1.cap [110] (manText m))))=if(unlS [110] (chgF d1 (appR d1.files d1.cap [110] (manText m)))).2=0 then synS [110] ((unlS [110] (chgF d1 (appR d1.files d1.cap [110] (manText m)))).1,0) else unlS [110] (chgF d1 (appR d1.files d1.cap [110] (manText m))):=by
    split
    ·rename_i h;rw[<- pair_eq h]
    ·rename_i h;exact stp_no h _
   rw[<- e3] at h3;generalize synS [110] (unlS [110] (chgF d1 (appR d1.files d1.cap [110] (manText m))))=w at *;have h4:=Out.seq (X:=[[110]]) (g:=some (fm d.files)) h3 (r2:=chgF w.1 (renR w.1.files [110] [109])) (X2:=[]) (G2:=up (fm d.files) [109] (manV m)) (g2:=none)
    (fun h0 hd2 hf2 hs2=>(by
     have:=ren_out hs2 (a:=[110]) (b:=[109]) (by decide) (v:=(manText m,((manText m).length:Nat))) (by rw[hf2,up_at];rfl)
     refine this.eq ?_ rfl;rw[hf2,hf1,up_up,up_up,up_up,up_self hn];rfl)) (fun n hn=>by rw[up_up];exact up_ne _ _ (by simpa using hn)) (by simp) (by simp) (by simp) (by simp)
   exact h4
  ·intro n hn;exact up_ne _ _ (by simpa using hn)
theorem crt_swap_out {d:Dsk} (hs:srt d.files) {n:Txt} {m:Man} (hm:manB m=true) (hnm:namedF n=true) (hn2:n≠[110]) (h1:d.down=false->fm d.files [110]=none) (h2:d.down=false->fm d.files n=none) :
  Out d (if(crtS n (d,0)).2=0 then unlS n (swapS m (crtS n (d,0))) else crtS n (d,0)) [n,[110]] (up (up (fm d.files) n (some ([],0))) [109] (manV m)) (some (fm d.files)):=by
 have e1:crtS n (d,0)=chgF d (crtR d.files n):=stp_ye _ _;rw[e1];by_cases hd:d.down=true
 ·rw[chg_down hd,if_neg (by simp)]
  exact .dn hs hd _ _ _
 ·have hd:d.down=false:=by simpa using hd
  refine Out.seq (crt_out hs hnm (h2 hd)) (g1:=none) (g2:=some (fm d.files)) ?_ ?_ (by simp) (X2:=[[110]]) (by simp) (by simp) (by simp)
  ·intro h0 hd1 hf1 hs1;rw[pair_eq h0];generalize (chgF d (crtR d.files n)).1=d1 at *;have h3:=swap_out hs1 hm (fun _=>by rw[hf1,up_ne _ _ (fun e=>hn2 e.symm)];exact h1 hd)
   have h4:=h3.unl (n:=n) (v:=([],0)) (by rw[hf1,up_at]) (fun _ _=>rfl)
   rw[hf1,up_up,up_self (h2 hd)] at h4;exact h4
  ·intro k hk;exact up_ne _ _ (fun e=>hk (by simp[e]))
theorem lay_out {d:Dsk} (hs:srt d.files) {n x:Txt} {m:Man} (hm:manB m=true) (hnm:namedF n=true) (hn2:n≠[110]) (h1:d.down=false->fm d.files [110]=none) (h2:d.down=false->fm d.files n=none) :
  Out d (layT d n x m) [n,[110]] (up (up (fm d.files) n (some (x,(x.length:Nat)))) [109] (manV m)) (some (fm d.files)):=by
 have e1:crtS n (d,0)=chgF d (crtR d.files n):=stp_ye _ _;unfold layT;simp only[e1];by_cases hd:d.down=true
 ·rw[chg_down hd];have e2:synS n (d,10)=(d,10):=rfl;simp only[e2];exact .dn hs hd _ _ _
 ·have hd:d.down=false:=by simpa using hd
  have k1:=Out.seq (X:=[n]) (g:=some (fm d.files)) (crt_out hs hnm (h2 hd)) (r2:=unlS n (appS n x (chgF d (crtR d.files n)))) (G2:=up (fm d.files) n (some (x,0))) (g2:=some (fm d.files)) (X2:=[]) (by
   intro h0 hd1 hf1 hs1;rw[pair_eq h0];generalize (chgF d (crtR d.files n)).1=d1 at *;have ea:appS n x (d1,0)=chgF d1 (appR d1.files d1.cap n x):=stp_ye _ _;rw[ea];have h3:=(app_out hs1 x (n:=n) (v:=([],0)) (by rw[hf1,up_at])).unl (n:=n) (v:=([],0)) (by rw[hf1,up_at]) (fun _ _=>rfl)
   rw[hf1,up_up,up_up,up_self (h2 hd)] at h3;exact h3) (fun k hk=>up_ne _ _ (by simpa using hk)) (by simp) (by simp) (by simp) (by simp)
  generalize (if(chgF d (crtR d.files n)).2=0 then unlS n (appS n x (chgF d (crtR d.files n))) else chgF d (crtR d.files n))=b at *
  have k2:=Out.seq (X:=[n]) (g:=some (fm d.files)) k1 (r2:=chgF b.1 (synR b.1.files n)) (G2:=up (fm d.files) n (some (x,(x.length:Nat)))) (g2:=none) (X2:=[]) (by
   intro h0 hd1 hf1 hs1;have:=syn_out hs1 (n:=n) (v:=(x,0)) (by rw[hf1,up_at])
   rw[hf1,up_up] at this;exact this) (fun k hk=>up_ne _ _ (by simpa using hk)) (by simp) (by simp) (by simp) (by simp)
  have e3:(if b.2=0 then chgF b.1 (synR b.1.files n) else b)=synS n b:=rfl
  rw[e3] at k2;generalize synS n b=c at *;refine Out.seq (X:=[n,[110]]) k2 (g:=some (fm d.files)) (g2:=some (fm d.files)) (X2:=[[110]]) ?_ ?_ (by simp) (by simp) (by simp) (by simp)
  ·intro h0 hd1 hf1 hs1;rw[pair_eq h0];have h3:=swap_out hs1 hm (fun _=>by rw[hf1,up_ne _ _ (fun e=>hn2 e.symm)];exact h1 hd)
   have h4:=h3.unl (n:=n) (v:=(x,((x.length:Nat):Int))) (by rw[hf1,up_at]) (fun _ _=>rfl)
   rw[hf1,up_up,up_self (h2 hd)] at h4;exact h4
  ·intro k hk;exact up_ne _ _ (fun e=>hk (by simp[e]))
def rmv (l:List Txt) (F:FM):FM:=fun k=>if k∈l then none else F k
theorem goP_out:∀ (l:List Txt) (d:Dsk),srt d.files->l.Nodup->d.down=false->(∀ n∈l,fm d.files n≠none)->Out d (goP l (d,0)) l (rmv l (fm d.files)) none
 | [],d,hs,_,hd,_=>⟨Dk.refl d,hs,.inl ⟨rfl,hd,by funext k;simp[rmv,goP]⟩⟩
 | n::l,d,hs,hn,hd,h=>by
  have hn:=List.nodup_cons.1 hn;obtain⟨v,hv⟩:=Option.ne_none_iff_exists'.1 (h n (by simp))
  have e1:delS n (d,0)=chgF d (delR d.files n):=stp_ye _ _;rw[goP_cons,e1];have h1:=del_out hs hv;have e2:goP l (chgF d (delR d.files n))=if(chgF d (delR d.files n)).2=0 then goP l ((chgF d (delR d.files n)).1,0) else chgF d (delR d.files n):=by
   split
   ·rename_i h0;rw[<- pair_eq h0]
   ·rename_i h0;exact goP_err l _ h0
  rw[e2];refine Out.seq h1 (X2:=l) (g2:=none) ?_ ?_ (by simp) (fun k hk=>by simp[hk]) (by simp) (by simp)
  ·intro h0 hd1 hf1 hs1;have h2:=goP_out l (chgF d (delR d.files n)).1 hs1 hn.2 hd1 (fun k hk=>by
    rw[hf1,up_ne _ _ (fun e=>hn.1 (by rw[<- e];exact hk))];exact h k (by simp[hk]))
   rw[hf1] at h2;refine h2.eq ?_ rfl;funext k
   unfold rmv;by_cases c:k=n
   ·simp[c,hn.1,up_at]
   ·by_cases c2:k∈l
    ·rw[if_pos c2,if_pos (List.mem_cons_of_mem _ c2)]
    ·rw[if_neg c2,if_neg (by simp[c,c2]),up_ne _ _ c]
  ·intro k hk;exact up_ne _ _ (fun e=>hk (by simp[e]))
structure Act where
 kind:Int
 n:Int
 data:List UInt8
 deriving DecidableEq
def Act.enc (e:Act):List D:=[.i .i64 e.kind,.i .i64 e.n,.s e.data]
theorem Act.len (e:Act):e.enc.length=3:=Eq.trans rfl rfl
theorem Act.tk (e:Act):e.enc.take 3=e.enc:=Eq.trans rfl rfl
theorem Act.tkL (e:Act):(e.enc.map L.d).take 3=e.enc.map L.d:=Eq.trans rfl rfl
theorem Act.dat (e:Act):dataLs (e.enc.map L.d)=some (e.enc.map L.d):=Eq.trans rfl rfl
theorem Act.rfs (e:Act):(e.enc.map L.d).flatMap L.refs=[]:=Eq.trans rfl rfl
theorem Act.rn (e:Act) (g:Nat->Option Nat):(e.enc.map L.d).map (L.ren g)=e.enc.map L.d:=Eq.trans rfl rfl
theorem Act.lenL (e:Act):(e.enc.map L.d).length=3:=Eq.trans rfl rfl
theorem Act.at0 (e:Act):e.enc[0]?=some (.i .i64 e.kind):=Eq.trans rfl rfl
theorem Act.fd0 (e:Act):(e.enc.map L.d)[0]?=some (.d (.i .i64 e.kind)):=Eq.trans rfl rfl
theorem Act.at1 (e:Act):(e.enc.drop 1)[0]?=some (.i .i64 e.n):=Eq.trans rfl rfl
theorem Act.fd1 (e:Act):(e.enc.map L.d)[1]?=some (.d (.i .i64 e.n)):=Eq.trans rfl rfl
theorem Act.at2 (e:Act):(e.enc.drop 2)[0]?=some (.s e.data):=Eq.trans rfl rfl
theorem Act.fd2 (e:Act):(e.enc.map L.d)[2]?=some (.d (.s e.data)):=Eq.trans rfl rfl
theorem Act.up1 (e:Act) (x:Int):e.enc.take 1++[.i .i64 x]++e.enc.drop 2=({ e with n:=x }:Act).enc:=Eq.trans rfl rfl
theorem Act.up2 (e:Act) (x:List UInt8):e.enc.take 2++[.s x]++e.enc.drop 3=({ e with data:=x }:Act).enc:=Eq.trans rfl rfl
def Act.ok (e:Act):Prop:=(-9223372036854775808<=e.kind∧e.kind<9223372036854775808)∧(-9223372036854775808<=e.n∧e.n<9223372036854775808)∧e.data.length<=9223372036854775807
def Act.ty:List Ty:=[.i .i64,.i .i64,.s]
theorem Act.eqs (a b:Act):scEqs [0,0,2] (a.enc.map L.d) (b.enc.map L.d)=some (decide (a=b)):=by
 cases a;cases b;simp only[Act.enc,List.map_cons,List.map_nil,scEqs,scEq,if_true,Act.mk.injEq];congr 1
 rw[Bool.eq_iff_iff];simp only[Bool.and_eq_true,beq_iff_eq,decide_eq_true_eq,and_true]
theorem Act.of (r:List D) (h:wfRow Act.ty r):∃ e:Act,r=e.enc∧e.ok:=by
 simp only[Act.ty,wfRow,wfT] at h;obtain⟨_,_,rfl,⟨x0,rfl,h0,g0⟩,⟨_,_,rfl,⟨x1,rfl,h1,g1⟩,⟨_,_,rfl,⟨x2,rfl,h2⟩,rfl⟩⟩⟩:=h;refine⟨⟨x0,x1,x2⟩,rfl,?_⟩;exact⟨⟨Int.le_trans (by decide) h0,Int.lt_of_le_of_lt g0 (by decide)⟩,⟨Int.le_trans (by decide) h1,Int.lt_of_le_of_lt g1 (by decide)⟩,h2⟩
variable {f:Int} {S:Txt} {l0:List Pr} {s:Sto} {M:List SR} {g:Seg} {l:List Rec}
theorem snapN_len (n:Int):(snapN n).length=14:=by simp[snapN,nameF]
theorem fileN_len (n:Int):(fileN n).length=14:=by simp[fileN,nameF]
theorem snap_file (a b:Int):snapN a≠fileN b:=fun h=>by
 have:(snapN a)[0]?=(fileN b)[0]?:=by rw[h]
 simp[snapN,fileN,nameF] at this
theorem n109 (n:Txt) (h:2<=n.length):n≠[109]:=fun e=>by rw[e] at h;simp at h
theorem nameF_digA {c:UInt8} {a b:Nat} (h:nameF c a=nameF c b):nameF 115 a=nameF 115 b:=by
 unfold nameF at h ⊢;rw[(List.cons.inj h).2]
theorem snapN_inj {a b:Int} (ha:0<=a∧a<=1099511627776) (hb:0<=b∧b<=1099511627776) (h:snapN a=snapN b):a=b:=fileN_inj ha hb (nameF_digA h)
theorem namedN (n:Int):namedF (fileN n)=true:=by
 have:=fileN_len n;have h2:fileN n≠[]:=fun e=>by rw[e] at this;simp at this
 simp[namedF,h2,this]
theorem namedS (n:Int):namedF (snapN n)=true:=by
 have:=snapN_len n;have h2:snapN n≠[]:=fun e=>by rw[e] at this;simp at this
 simp[namedF,h2,this]
def rel (f:Int) (s:Sto) (n:Txt):Prop:=n=[109]∨(∃ g∈s.segs,n=fileN g.base)∨(0<f∧n=snapN f)
theorem rel_110 (f:Int) (s:Sto):¬ rel f s [110]:=by
 rintro(h|⟨g,_,h⟩|⟨_,h⟩)
 ·simp at h
 ·exact n110 _ (by rw[fileN_len];decide) h.symm
 ·exact n110 _ (by rw[snapN_len];decide) h.symm
def Snp (f:Int) (S:Txt) (l0:List Pr) (s:Sto):Prop :=
 (f=0∧S=[]∧l0=[]∧s.size=0∧s.sum=0)∨(0<f∧fm s.disk.files (snapN f)=some (S,((S.length:Nat):Int))∧parseF S=some l0∧s.size=((S.length:Nat):Int)∧s.sum=sumT S)
structure W (f:Int) (S:Txt) (l0:List Pr) (s:Sto) (M:List SR) (g:Seg) (l:List Rec):Prop where
 inv:Inv f s M g l
 snp:Snp f S l0 s
 man:fm s.disk.files [109]=manV s.man
 right:manB s.man=true
 full:∀ p∈M,fm s.disk.files (fileN p.1.base)=some (rowS p.2,(((rowS p.2).length:Nat):Int))
 last:∃ q:Nat,fm s.disk.files (fileN g.base)=some (rowS l,((q:Nat):Int))∧(rowS (l.take (s.sure-g.base).toNat)).length<=q∧q<=(rowS l).length
 lo:g.base<=s.sure
 only:s.disk.down=false->∀ n,fm s.disk.files n≠none->rel f s n
theorem W.mem (h:W f S l0 s M g l):∀ p∈M++[(g,l)],p.1∈s.segs:=by
 intro p hp;rw[h.inv.segs];rcases List.mem_append.1 hp with hp|hp
 ·exact List.mem_append_left _ (List.mem_map_of_mem hp)
 ·rw[List.mem_singleton.1 hp];simp
theorem W.keep (h:W f S l0 s M g l) (hs:srt s.disk.files) {d:Dsk} (hs':srt d.files) (hk:∀ n,rel f s n->fm d.files n=fm s.disk.files n)
  (hd:d.down=true∨(fm d.files=fm s.disk.files∧s.disk.down=false)):W f S l0 { s with disk:=d } M g l:=by
 have hm:=h.mem;refine⟨h.inv.disk d fun p hp hh=>?_,?_,?_,h.right,fun p hp=>?_,?_,h.lo,fun hdn n hn=>?_⟩
 ·rw[fm_hasD hs] at hh;rw[fm_hasD hs',hk _ (.inr (.inl ⟨_,hm p hp,rfl⟩))];exact hh
 ·rcases h.snp with h1|⟨h1,h2,h3⟩
  ·exact .inl h1
  ·exact .inr ⟨h1,by show fm d.files _=_;rw[hk _ (.inr (.inr ⟨h1,rfl⟩))];exact h2,h3⟩
 ·show fm d.files _=_;rw[hk _ (.inl rfl)];exact h.man
 ·show fm d.files _=_;rw[hk _ (.inr (.inl ⟨_,hm p (List.mem_append_left _ hp),rfl⟩))];exact h.full p hp
 ·obtain⟨q,h1,h2⟩:=h.last;exact⟨q,by show fm d.files _=_;rw[hk _ (.inr (.inl ⟨_,hm (g,l) (by simp),rfl⟩))];exact h1,h2⟩
 ·rcases hd with hd|⟨h1,h2⟩
  ·rw[show d.down=false from hdn] at hd;cases hd
  ·exact h.only h2 n (by rw[<- h1];exact hn)
theorem W.fail (h:W f S l0 s M g l) (hs:srt s.disk.files) {r:Dsk × Int} {X:List Txt} {G:FM} (hO:Out s.disk r X G (some (fm s.disk.files))) (he:r.2≠0) (hX:∀ n∈X,¬ rel f s n) :
  W f S l0 { s with disk:=r.1 } M g l∧((r.2=9∧fm r.1.files=fm s.disk.files∧r.1.down=false)∨(r.2=10∧r.1.down=true)):=by
 obtain⟨k,s1,o⟩:=hO;rcases o with⟨e,_⟩|⟨q,hq,e,hd,hf⟩|⟨e,hd,hf⟩
 ·exact absurd e he
 ·cases hq;have h0:s.disk.down=false:=by
   cases hx:s.disk.down with
   | false=>rfl
   | true=>rw[k.down hx,hx] at hd;cases hd
  exact⟨h.keep hs s1 (fun n _=>by rw[hf]) (.inr ⟨hf,h0⟩),.inl ⟨e,hf,hd⟩⟩
 ·exact⟨h.keep hs s1 (fun n hn=>hf n (fun hx=>hX n hx hn)) (.inl hd),.inr ⟨e,hd⟩⟩
theorem bases_lt {f:Int} {M:List SR} {g:Seg} (h:chainM f M g.base):∀ p∈M,p.1.base<g.base:=fun p hp=>by
 have:=(chain_mem _ _ _ h).2 p hp;omega
theorem incB_iff:∀ (l:List Int) (a:Int),incB a l=true↔(l.Pairwise (· < ·)∧∀ n∈l,a<n∧n<=1099511627776)
 | [],a=>by simp[incB]
 | x::r,a=>by
  have ih:=incB_iff r x;simp only[incB,Bool.and_eq_true,decide_eq_true_eq,ih,List.pairwise_cons,List.mem_cons];constructor
  ·rintro⟨h1,h2,h3⟩;exact⟨⟨fun b hb=>(h3 b hb).1,h2⟩,fun n hn=>by
    rcases hn with rfl|hn
    ·exact h1
    ·have:=h3 n hn;exact⟨by omega,this.2⟩⟩
  ·rintro⟨⟨h1,h2⟩,h3⟩;exact⟨h3 x (.inl rfl),h2,fun n hn=>⟨h1 n hn,(h3 n (.inr hn)).2⟩⟩
theorem manB_mk {m:Man} (hv:1<=m.ver∧m.ver<=1099511627776) (hl:1<=m.segs.length∧m.segs.length<=64) (hi:incB (-1) m.segs=true) (hz:(m.segs.head?=some 0∧m.size=0∧m.sum=0)∨(m.segs.head?≠some 0∧0<m.size∧m.size<=65536)):manB m=true:=by
 unfold manB;rw[hi,Bool.true_and,Bool.and_eq_true];refine⟨by simpa using⟨hv.1,hv.2,hl.1,hl.2⟩,?_⟩
 rcases hz with⟨h1,h2,h3⟩|⟨h1,h2,h3⟩
 ·rw[if_pos h1];simp[h2,h3]
 ·rw[if_neg h1];simp[h2,h3]
theorem manB_z {m:Man} (h:manB m=true):(m.segs.head?=some 0∧m.size=0∧m.sum=0)∨(m.segs.head?≠some 0∧0<m.size∧m.size<=65536):=by
 unfold manB at h;rw[Bool.and_eq_true,Bool.and_eq_true] at h;have h2:=h.2.2;by_cases c:m.segs.head?=some 0
 ·rw[if_pos c] at h2;exact .inl ⟨c,by simpa using h2⟩
 ·rw[if_neg c] at h2;exact .inr ⟨c,by simpa using h2⟩
variable {k u:Nat} {f:Int} {S:Txt} {l0:List Pr} {s:Sto} {M:List SR} {g:Seg} {l:List Rec}
theorem W.file_ne (ho:okS k u s) (h:W f S l0 s M g l):∀ p∈M,fileN p.1.base≠fileN g.base:=fun p hp e=>by
 have h1:=(ho.seg _ (h.mem p (List.mem_append_left _ hp))).1;have h2:=(ho.seg _ (h.mem (g,l) (by simp))).1
 have:p.1.base=g.base:=fileN_inj h1 h2 e;have:=bases_lt h.inv.chain p hp;omega
theorem Dk.up_of {d d':Dsk} (h:Dk d d') (hd:d'.down=false):d.down=false:=by
 cases hx:d.down with
 | false=>rfl
 | true=>rw[h.down hx,hx] at hd;cases hd
theorem W.change (ho:okS k u s) (h:W f S l0 s M g l) {s':Sto} {g':Seg} {l':List Rec} {x:Txt} {q:Nat} (hi:Inv f s' M g' l') (hb:g'.base=g.base) (hf:fm s'.disk.files=up (fm s.disk.files) (fileN g.base) (some (x,((q:Nat):Int)))) (hd:s.disk.down=false)
  (hm:s'.man=s.man) (hz:s'.size=s.size∧s'.sum=s.sum) (hx:x=rowS l') (h1:(rowS (l'.take (s'.sure-g.base).toNat)).length<=q∧q<=(rowS l').length) (hl:g.base<=s'.sure):W f S l0 s' M g' l':=by
 have hne:=h.file_ne ho;have hsg:∀ n,rel f s n->rel f s' n:=by
  rintro n (hn|⟨a,ha,hn⟩|hn)
  ·exact .inl hn
  ·refine .inr (.inl ?_);rw[h.inv.segs] at ha;rcases List.mem_append.1 ha with ha|ha
   ·exact⟨a,by rw[hi.segs];exact List.mem_append_left _ ha,hn⟩
   ·rw[List.mem_singleton.1 ha] at hn;exact⟨g',by rw[hi.segs];simp,by rw[hb];exact hn⟩
  ·exact .inr (.inr hn)
 refine⟨hi,?_,?_,by rw[hm];exact h.right,fun p hp=>?_,⟨q,?_,by rw[hb];exact h1⟩,by rw[hb];exact hl,fun _ n hn=>?_⟩
 ·rcases h.snp with h2|⟨h2,h3,h4⟩
  ·exact .inl ⟨h2.1,h2.2.1,h2.2.2.1,by rw[hz.1];exact h2.2.2.2.1,by rw[hz.2];exact h2.2.2.2.2⟩
  ·exact .inr ⟨h2,by rw[hf,up_ne _ _ (snap_file _ _)];exact h3,h4.1,by rw[hz.1];exact h4.2.1,by rw[hz.2];exact h4.2.2⟩
 ·rw[hf,hm,up_ne _ _ (n109 _ (by rw[fileN_len];decide)).symm];exact h.man
 ·rw[hf,up_ne _ _ (hne p hp)];exact h.full p hp
 ·rw[hf,hb,up_at,hx]
 ·by_cases c:n=fileN g.base
  ·exact hsg n (.inr (.inl ⟨g,h.mem (g,l) (by simp),c⟩))
  ·rw[hf,up_ne _ _ c] at hn;exact hsg n (h.only hd n hn)
theorem W.sync (ho:okS k u s) (h:W f S l0 s M g l):W f S l0 (syncT s).1 M g l∧(((syncT s).2=0∧(syncT s).1.sure=s.next∧(syncT s).1.disk.down=false)∨((syncT s).2=10∧(syncT s).1.disk.down=true∧(syncT s).1.sure=s.sure))∧(syncT s).1.disk.cap=s.disk.cap:=by
 have hi:=sync_inv ho h.inv ho.next.1;obtain⟨q,h1,h2,h3⟩:=h.last;have hO:=syn_out ho.dsk.srt h1;have hl:=h.inv.last;have es:syncT s=({ s with disk:=(chgF s.disk (synR s.disk.files (fileN g.base))).1,sure:=if(chgF s.disk (synR s.disk.files (fileN g.base))).2=0 then s.next else s.sure },(chgF s.disk (synR s.disk.files (fileN g.base))).2):=by unfold syncT;rw[hl]
 rw[es] at hi ⊢;generalize chgF s.disk (synR s.disk.files (fileN g.base))=r at *;have hnx:=h.inv.next;have hcap:=hO.1.cap;rcases hO.2.2 with⟨e,hd,hf⟩|⟨_,hc,_⟩|⟨e,hd,hf⟩
 ·have e1:(if r.2=0 then s.next else s.sure)=s.next:=if_pos e
  rw[e1] at hi ⊢;refine⟨h.change ho hi rfl hf (hO.1.up_of hd) rfl ⟨rfl,rfl⟩ rfl ⟨?_,Nat.le_refl _⟩ ?_,.inl ⟨e,rfl,hd⟩,hcap⟩
  ·simp only[];rw[List.take_of_length_le (by omega)];exact Nat.le_refl _
  ·simp only[];omega
 ·cases hc
 ·have e1:(if r.2=0 then s.next else s.sure)=s.sure:=if_neg (by rw[e];decide)
  rw[e1];exact⟨h.keep ho.dsk.srt hO.2.1 (fun n _=>hf n (by simp)) (.inl hd),.inr ⟨e,hd,rfl⟩,hcap⟩
theorem segs_man (h:Inv f s M g l) (a b:Int):((s.segs.dropLast++[⟨s.last.base,a,b⟩]:List Seg)).map Seg.base=s.segs.map Seg.base:=by
 rw[h.last,h.segs];simp
theorem W.put (ho:okS k u s) (h:W f S l0 s M g l) (r:Rec) (hr:whyF r=0) (ha:r.at_=s.next) :
  ((putT s (putF r).1).1.disk.cap=s.disk.cap∧(putT s (putF r).1).1.sure=s.sure)∧((W f S l0 (putT s (putF r).1).1 M g l∧(putT s (putF r).1).1.next=s.next∧(putT s (putF r).1).1.segs=s.segs∧(putT s (putF r).1).1.ver=s.ver∧((((putT s (putF r).1).2=9∧(putT s (putF r).1).1.disk.down=false)∨((putT s (putF r).1).2=10∧(putT s (putF r).1).1.disk.down=true)))) ∨
  ((putT s (putF r).1).2=0∧(putT s (putF r).1).1.disk.down=false∧W f S l0 (putT s (putF r).1).1 M ⟨g.base,g.n+1,g.size+(frameF (bodyF r)).length⟩ (l++[r]))):=by
 have hp:=put_inv ho h.inv r hr ha;have hl:=h.inv.last;have e1:(putF r).1=frameF (bodyF r):=by unfold putF;rw[if_pos hr]
 obtain⟨q,h1,h2,h3⟩:=h.last;have hO:=app_out ho.dsk.srt (frameF (bodyF r)) h1;have hsg:=segs_man h.inv (s.last.n+1) (s.last.size+((frameF (bodyF r)).length:Nat));have hnx:=h.inv.next;have hsu:=h.inv.sure;have es:putT s (putF r).1=if(chgF s.disk (appR s.disk.files s.disk.cap (fileN g.base) (frameF (bodyF r)))).2≠0 then({ s with disk:=(chgF s.disk (appR s.disk.files s.disk.cap (fileN g.base) (frameF (bodyF r)))).1 },(chgF s.disk (appR s.disk.files s.disk.cap (fileN g.base) (frameF (bodyF r)))).2) else({ addSeg s (frameF (bodyF r)).length with disk:=(chgF s.disk (appR s.disk.files s.disk.cap (fileN g.base) (frameF (bodyF r)))).1 },0):=by
  unfold putT;rw[hl,e1]
 rw[es] at hp ⊢;have hcap:=hO.1.cap;by_cases c:(chgF s.disk (appR s.disk.files s.disk.cap (fileN g.base) (frameF (bodyF r)))).2=0
 ·rw[if_neg (by simp[c])] at hp ⊢
  refine⟨⟨hcap,rfl⟩,.inr ?_⟩;rcases hp with⟨hp,_⟩|⟨_,hp⟩
  ·exact absurd rfl hp
  ·rcases hO.2.2 with⟨e,hd,hf⟩|⟨_,_,e,_⟩|⟨e,_⟩
   ·refine⟨rfl,hd,h.change ho hp rfl hf (hO.1.up_of hd) ?_ ⟨rfl,rfl⟩ (rowS_snoc _ _).symm ⟨?_,?_⟩ h.lo⟩
    ·show(⟨s.ver,(s.segs.dropLast++[_]).map Seg.base,s.size,s.sum⟩:Man)=s.man;rw[hsg];rfl
    ·show(rowS ((l++[r]).take (s.sure-g.base).toNat)).length<=q;rw[List.take_append_of_le_length (by omega)];exact h2
    ·rw[rowS_snoc,List.length_append];omega
   ·rw[e] at c;cases c
   ·rw[e] at c;cases c
 ·rw[if_pos c] at hp ⊢;refine⟨⟨hcap,rfl⟩,.inl ?_⟩;have:=h.fail ho.dsk.srt hO c (by simp)
  refine⟨this.1,rfl,rfl,rfl,?_⟩;rcases this.2 with⟨a,_,b⟩|h
  ·exact .inl ⟨a,b⟩
  ·exact .inr h
end Go.Proofs.YtghfhomfppbooaaGreat
