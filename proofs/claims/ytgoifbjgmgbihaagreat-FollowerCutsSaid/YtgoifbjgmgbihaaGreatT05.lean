import Derived.Test.YtgoifbjgmgbihaaGreatT04
import Derived.Test.YtgoifbjgmgbihaaGreatVid
import Derived.Test.YtgoifbjgmgbihaaGreatT03
set_option linter.unusedSimpArgs false
set_option linter.unusedVariables false
set_option maxRecDepth 20000
set_option maxHeartbeats 16000000
namespace Go.Proofs.YtgoifbjgmgbihaaGreat
open Go.Vi
theorem DG (s:Sto) (hl:s.segs.length<=1000000):call 72 [.agg s.l] []=some (.agg s.man.l,[]):=by
 apply ah SL rfl;obtain⟨⟨fl,cp,ar,lf,dn⟩,ver,segs,next,sure,size,sum⟩:=s;simp only at hl;unfold Sto.man;(simp(disch:=first|decide|omega|(intros;exact aj rfl rfl)|simp only[aa]) only[Rx,Sto.l,Dsk.l,Man.l,go_sem,seval,ak,bI,A.kind,A.xs,aD,A.isN])
 obtain⟨Z,hZ⟩:∃ Z:V,Z=V.agg [zI ver,.d (.l ((segs.map Seg.base).map eI)),zI size,zW sum]:=⟨_,rfl⟩;rw[<- hZ];refine aB (m:=0) (σ:=Option Nat) (fun t=>match t with|none=>segs.length+1|some i=>segs.length-i) (fun t=>match t with|none=>True|some i=>i+1<=segs.length) (fun t=>match t with|none=>[V.one (.p 0 0),V.one (.p 1 0),V.one (.p 2 0),vi 0]|some i=>[V.one (.p 0 0),V.one (.p 1 0),V.one (.p 2 0),vi ((i+1:Nat):Int)])
  (fun t=>match t with|none=>[.cells [.d (.l (fl.map Fil.enc)),zI cp,zB ar,zI lf,zB dn,zI ver,.d (.l (segs.map Seg.enc)),zI next,zI sure,zI size,zW sum],.cells [zI 0,.ns,zI 0,zW 0],.cells [zI ver,.ns,zI size,zW sum]]|some i=>[.cells [.d (.l (fl.map Fil.enc)),zI cp,zB ar,zI lf,zB dn,zI ver,.d (.l (segs.map Seg.enc)),zI next,zI sure,zI size,zW sum],.cells [zI 0,.ns,zI 0,zW 0],.cells [zI ver,.sl 3 1 0 (i+1),zI size,zW sum],.arr 1 ((segs.take (i+1)).map fun g=>eI g.base) 0]) (fun _=>(Z,[])) ?_ none trivial _ _ ?_
 rotate_left
 ·exact cm
 intro t hi R hR;cases t with
 | none =>
  by_cases c:0<segs.length
  ·have g1:(segs.map Seg.enc)[0]?=some segs[0].enc:=by simp[c]
   have ci:(0:Int)<(segs.length:Int):=by omega
   have hK:=hR (some 0) (by simp only[];omega) (by simp only[];omega)
   have e1:((segs.take (0+1)).map fun g=>eI g.base)=[eI segs[0].base]:=by cases segs with|nil=>cases c|cons a r=>rfl
   clear hR;simp only[] at hK ⊢;rw[e1] at hK;generalize segs[0]=g at *;obtain⟨gb,gn,gz⟩:=g;simp only[Seg.enc,eI] at g1 hK;(simp(disch:=first|decide|omega|(intros;exact aj rfl rfl)|simp only[aa]) only[xa,ci,g1,↓yk,Mb,go_sem,seval,ak,bI,A.kind,A.xs,aD,A.isN])
   exact hK _ _ cm
  ·have e:segs=[]:=List.length_eq_zero_iff.1 (by omega)
   subst e;clear hR;simp only[];(simp(disch:=first|decide|omega|(intros;exact aj rfl rfl)|simp only[aa]) only[xa,go_sem,seval,ak,bI,A.kind,A.xs,aD,A.isN])
   try rw[hZ]
   try simp[trim]
 | some i =>
  have hln:((segs.take (i+1)).map fun g=>eI g.base).length=i+1:=by simp;omega
  by_cases c:i+1<segs.length
  ·have g1:(segs.map Seg.enc)[i+1]?=some segs[i+1].enc:=by simp[c]
   have hK:=hR (some (i+1)) (by simp only[];omega) (by simp only[];omega)
   clear hR;simp only[] at hK ⊢;have e1:((segs.take (i+1+1)).map fun g=>eI g.base)=((segs.take (i+1)).map fun g=>eI g.base)++[eI segs[i+1].base]:=by
    rw[zO c,List.map_append];rfl
   rw[e1] at hK;generalize ((segs.take (i+1)).map fun g=>eI g.base)=Q at *
   generalize segs[i+1]=g at *;obtain⟨gb,gn,gz⟩:=g;have ci:((i+1:Nat):Int)<(segs.length:Int):=by omega
   simp only[Seg.enc,eI] at g1 hK;(simp(disch:=first|decide|omega|(intros;exact aj rfl rfl)|simp only[aa]) only[xa,ci,g1,hln,↓mC,wc,go_sem,seval,ak,bI,A.kind,A.xs,aD,A.isN])
   exact hK _ _ cm
  ·have ci:¬ ((i+1:Nat):Int)<(segs.length:Int):=by omega
   have e:segs.take (i+1)=segs:=zL (by omega)
   clear hR;simp only[];rw[e] at hln ⊢;have e3:(segs.map Seg.base).map eI=segs.map fun g=>eI g.base:=by simp
   rw[e3] at hZ;generalize (segs.map fun g=>eI g.base)=Q at *
   have e4:Q.take (i+1)=Q:=zL (by omega)
   (simp(disch:=first|decide|omega|(intros;exact aj rfl rfl)|simp only[aa]) only[xa,ci,hln,e4,go_sem,seval,ak,bI,A.kind,A.xs,aD,A.isN])
   rw[hZ];try simp[zR]
def lw (segs:List Int) (i:Nat):Int:=match i with|0 => -1|i+1=>segs.getD i 0
theorem sL (m:Man) (hl:m.segs.length<=1000000):call 75 [.agg m.l] []=some (vb (manB m),[]):=by
 obtain⟨ver,segs,size,sum⟩:=m;unfold manB Man.l;simp only at hl ⊢;apply ah SA rfl;by_cases c1:1<=ver
 ·by_cases c2:ver<=1099511627776
  ·by_cases c3:1<=segs.length
   ·by_cases c4:segs.length<=64
    ·rw[decide_eq_true ⟨c1,c2,c3,c4⟩,Bool.true_and];obtain⟨Z,hZ⟩:∃ Z:V × Hp,Z=(vb (jK (-1) segs && (if segs.head?=some 0 then decide (size=0∧sum=0) else decide (0<size∧size<=65536))),[]):=⟨_,rfl⟩
     rw[<- hZ];have d1:¬ ver<1:=by omega
     have d2:¬ (1099511627776:Int)<ver:=by omega
     have d3:¬ (segs.length:Int)<1:=by omega
     have d4:¬ (64:Int)<segs.length:=by omega
     (simp(disch:=first|decide|omega|(intros;exact aj rfl rfl)|simp only[aa]) only[MX,d1,d2,d3,d4,go_sem,seval,ak])
     refine aB (m:=0) (σ:=Nat) (fun i=>segs.length-i) (fun i=>i<=segs.length∧jK (-1) segs=jK (lw segs i) (segs.drop i)∧(0<i->0<=lw segs i)) (fun i=>[V.one (.p 0 0),vi i])
      (fun _=>[.cells [zI ver,.d (.l (segs.map eI)),zI size,zW sum]]) (fun _=>Z) ?_ 0 ⟨zP _,rfl,by omega⟩ _ _ ?_
     rotate_left
     ·exact cm
     rintro i ⟨hi,hinc,hpv⟩ R hR;by_cases c5:i<segs.length
     ·have c5i:(i:Int)<(segs.length:Int):=by omega
      have g1:(segs.map eI)[i]?=some (eI segs[i]):=by simp[c5]
      rw[uG _ c5] at hinc;have hpn:lw segs (i+1)=segs[i]:=by simp[lw,c5]
      by_cases c6:segs[i]<0
      ·have hd:decide (lw segs i<segs[i]∧segs[i]<=1099511627776)=false:=zF (by
        rintro⟨h1,h2⟩;cases i with
        | zero=>simp only[lw] at h1;omega
        | succ i=>have:=hpv (by omega);omega)
       rw[hd,Bool.false_and] at hinc;rw[hinc,Bool.false_and] at hZ;(simp(disch:=first|decide|omega|(intros;exact aj rfl rfl)|simp only[aa]) only[kZ,c5i,g1,dg,eK,c6,go_sem,seval,ak])
       rw[hZ]
      ·by_cases c7:(1099511627776:Int)<segs[i]
       ·have hd:decide (lw segs i<segs[i]∧segs[i]<=1099511627776)=false:=zF (by omega)
        rw[hd,Bool.false_and] at hinc;rw[hinc,Bool.false_and] at hZ;(simp(disch:=first|decide|omega|(intros;exact aj rfl rfl)|simp only[aa]) only[kZ,c5i,g1,dg,eK,c6,c7,go_sem,seval,ak])
        rw[hZ]
       ·cases i with
        | zero =>
         have hd:decide (lw segs 0<segs[0]∧segs[0]<=1099511627776)=true:=zT (by simp only[lw];omega)
         rw[hd,Bool.true_and] at hinc;(simp(disch:=first|decide|omega|(intros;exact aj rfl rfl)|simp only[aa]) only[kZ,c5i,g1,dg,eK,c6,c7,go_sem,seval,ak])
         exact hR (0+1) (by omega) ⟨by omega,by rw[hpn];exact hinc,fun _=>by rw[hpn];omega⟩ _ _ cm
        | succ i =>
         have hpi:lw segs (i+1)=segs[i]:=by simp[lw,show i<segs.length by omega]
         rw[hpi] at hinc;have g2:(segs.map eI)[i]?=some (eI segs[i]):=by simp[show i<segs.length by omega]
         have hsub:((i+1:Nat):Int)-1=(i:Int):=by omega
         have c0:(0:Int)<((i+1:Nat):Int):=by omega
         by_cases c8:segs[i+1]<=segs[i]
         ·have hd:decide (segs[i]<segs[i+1]∧segs[i+1]<=1099511627776)=false:=zF (by omega)
          rw[hd,Bool.false_and] at hinc;rw[hinc,Bool.false_and] at hZ;(simp(disch:=first|decide|omega|(intros;exact aj rfl rfl)|simp only[aa]) only[kZ,c5i,g1,g2,dg,eK,c6,c7,c0,hsub,c8,go_sem,seval,ak])
          rw[hZ]
         ·have hd:decide (segs[i]<segs[i+1]∧segs[i+1]<=1099511627776)=true:=zT (by omega)
          rw[hd,Bool.true_and] at hinc;(simp(disch:=first|decide|omega|(intros;exact aj rfl rfl)|simp only[aa]) only[kZ,c5i,g1,g2,dg,eK,c6,c7,c0,hsub,c8,go_sem,seval,ak])
          exact hR (i+1+1) (by omega) ⟨by omega,by rw[hpn];exact hinc,fun _=>by rw[hpn];omega⟩ _ _ cm
     ·rw[List.drop_of_length_le (by omega)] at hinc
      have hinc2:jK (-1) segs=true:=hinc;rw[hinc2,Bool.true_and] at hZ;have c5i:¬ (i:Int)<(segs.length:Int):=by omega
      have g0:(segs.map eI)[0]?=some (eI segs[0]):=by rw[zG,zE c3];rfl
      have hh:segs.head?=some segs[0]:=by rw[List.head?_eq_getElem?];simp
      rw[hh] at hZ;by_cases z:segs[0]=0
      ·rw[if_pos (by rw[z])] at hZ
       by_cases z2:size=0
       ·by_cases z3:sum=0
        ·(simp(disch:=first|decide|omega|(intros;exact aj rfl rfl)|simp only[aa]) only[kZ,c5i,g0,dg,eK,z,z2,z3,go_sem,seval,ak])
         rw[hZ];simp[z2,z3]
        ·(simp(disch:=first|decide|omega|(intros;exact aj rfl rfl)|simp only[aa]) only[kZ,c5i,g0,dg,eK,z,z2,z3,go_sem,seval,ak])
         rw[hZ];simp[z2,z3]
       ·(simp(disch:=first|decide|omega|(intros;exact aj rfl rfl)|simp only[aa]) only[kZ,c5i,g0,dg,eK,z,z2,go_sem,seval,ak])
        rw[hZ];simp[z2]
      ·rw[if_neg (by simpa using z)] at hZ
       by_cases z2:1<=size
       ·by_cases z3:size<=65536
        ·(simp(disch:=first|decide|omega|(intros;exact aj rfl rfl)|simp only[aa]) only[kZ,c5i,g0,dg,eK,z,z2,z3,go_sem,seval,ak])
         rw[hZ];simp[z3];omega
        ·(simp(disch:=first|decide|omega|(intros;exact aj rfl rfl)|simp only[aa]) only[kZ,c5i,g0,dg,eK,z,z2,z3,go_sem,seval,ak])
         rw[hZ];simp[z3]
       ·(simp(disch:=first|decide|omega|(intros;exact aj rfl rfl)|simp only[aa]) only[kZ,c5i,g0,dg,eK,z,z2,go_sem,seval,ak])
        rw[hZ];simp;omega
    ·rw[zF (fun h=>c4 h.2.2.2),Bool.false_and]
     have d1:¬ ver<1:=by omega
     have d2:¬ (1099511627776:Int)<ver:=by omega
     have d3:¬ (segs.length:Int)<1:=by omega
     have d4:(64:Int)<segs.length:=by omega
     (simp(disch:=first|decide|omega|(intros;exact aj rfl rfl)|simp only[aa]) only[MX,d1,d2,d3,d4,go_sem,seval,ak])
     try simp[trim]
   ·rw[zF (fun h=>c3 h.2.2.1),Bool.false_and]
    have d1:¬ ver<1:=by omega
    have d2:¬ (1099511627776:Int)<ver:=by omega
    have d3:(segs.length:Int)<1:=by omega
    (simp(disch:=first|decide|omega|(intros;exact aj rfl rfl)|simp only[aa]) only[MX,d1,d2,d3,go_sem,seval,ak])
    try simp[trim]
  ·rw[zF (fun h=>c2 h.2.1),Bool.false_and]
   have d1:¬ ver<1:=by omega
   have d2:(1099511627776:Int)<ver:=by omega
   (simp(disch:=first|decide|omega|(intros;exact aj rfl rfl)|simp only[aa]) only[MX,d1,d2,go_sem,seval,ak])
   try simp[trim]
 ·rw[zF (fun h=>c1 h.1),Bool.false_and]
  have d1:ver<1:=by omega
  (simp(disch:=first|decide|omega|(intros;exact aj rfl rfl)|simp only[aa]) only[MX,d1,go_sem,seval,ak])
  try simp[trim]
theorem vz (m:Man) (hm:m.ok):call 51 [.agg m.l] []=some (.tup [(false,[.d (.s (bC m).1)]),(false,[.d (.i .i64 (bC m).2)])],[]):=by
 have hr:=sL m hm.len;unfold bC;cases c:manB m with
 | false =>
  rw[c] at hr;apply ah RT rfl;simp only[Man.l] at hr;(simp(disch:=first|decide|omega|(intros;exact aj rfl rfl)|simp only[aa]) only[QH,Man.l,hr,go_sem,seval,ak])
  try simp[trim]
 | true =>
  rw[c] at hr;have hb:=lK c;obtain⟨h1,h2,h3,h4⟩:=lP c;have hmem:=oA _ _ h3;have hsum:=hm.sum;have hf:call 76 [.one (zW m.sum)] []=some (vs (jb (ni m)),[]):=by
   have:=oi (ni m);have e:(((ni m).toNat:Nat):Int)=m.sum:=by unfold ni;simp;omega
   rw[e] at this;exact this
  have hp:=j8 (fi m) (by omega)
  unfold xK at hp;rw[if_pos ⟨hb.1,by omega⟩] at hp
  have q1:=ml (n:=m.ver) (by omega) (by omega)
  have q2:=ml (n:=(m.segs.length:Int)) (by omega) (by omega)
  rw[Int.toNat_natCast] at q2;have q3:=ml (n:=m.size) (by omega) (by omega)
  have l1:=(wd (n:=m.ver.toNat) (by omega)).2
  have l2:=(wd (n:=m.segs.length) (by omega)).2
  have l3:=(wd (n:=m.size.toNat) (by omega)).2
  unfold ct;have hbd:fi m=((aq m.ver.toNat++aq m.segs.length)++de m.segs++aq m.size.toNat)++jb (ni m):=by
   unfold fi;simp[de,List.append_assoc]
  rw[hbd] at hp hb ⊢;have h4l:=gG (ni m);generalize jb (ni m)=F4 at *;obtain⟨ver,segs,size,sum⟩:=m;simp only[Man.l] at *;apply ah RT rfl;obtain⟨W,hW⟩:∃ W:Txt,W=aY (((aq ver.toNat++aq segs.length)++de segs++aq size.toNat)++F4):=⟨_,rfl⟩;rw[<- hW] at hp ⊢;have l12:(aq ver.toNat).length+(aq segs.length).length<=9223372036854775807:=by omega
  (simp(disch:=first|decide|omega|(intros;exact aj rfl rfl)|simp only[aa]) only[QH,hr,q1,q2,l12,go_sem,seval,ak])
  refine aB (m:=0) (σ:=Nat) (fun i=>segs.length-i) (fun i=>i<=segs.length) (fun i=>[V.one (.p 0 0),vs ((aq ver.toNat++aq segs.length)++de (segs.take i)),vi i])
   (fun _=>[.cells [zI ver,.d (.l (segs.map eI)),zI size,zW sum]]) (fun _=>(V.tup [(false,[zS W]),(false,[zI 0])],[])) ?_ 0 (zP _) _ _ ?_
  rotate_left
  ·have e:(aq ver.toNat++aq segs.length)++de (segs.take 0)=aq ver.toNat++aq segs.length:=by simp[de]
   rw[e];exact cm
  intro i hi R hR;have hln:=mr (segs.take i) (fun n hn=>by have:=hmem n (zZ hn);omega)
  have hti:(segs.take i).length=i:=by simp;omega
  rw[hti] at hln;by_cases c5:i<segs.length
  ·have g1:(segs.map eI)[i]?=some (eI segs[i]):=by simp[c5]
   have hmi:=hmem _ (zN c5);have q4:=ml (n:=segs[i]) (by omega) (by omega)
   have l4:=(wd (n:=segs[i].toNat) (by omega)).2
   have hR':=hR (i+1) (by omega) (by omega)
   have e1:de (segs.take (i+1))=de (segs.take i)++aq segs[i].toNat:=by
    rw[zO c5,uo];simp[de]
   rw[e1,<- List.append_assoc] at hR';obtain⟨P,hP⟩:∃ P:Txt,P=(aq ver.toNat++aq segs.length)++de (segs.take i):=⟨_,rfl⟩;have hPl:P.length+(aq segs[i].toNat).length<=9223372036854775807:=by rw[hP,zA,zA];omega
   rw[<- hP] at hR' ⊢;(simp(disch:=first|decide|omega|(intros;exact aj rfl rfl)|simp only[aa]) only[EV,g1,dg,eK,q4,hPl,go_sem,seval,ak])
   exact hR' _ _ cm
  ·have hin:i=segs.length:=by omega
   subst hin;rw[List.take_length] at hln ⊢;obtain⟨P,hP⟩:∃ P:Txt,P=(aq ver.toNat++aq segs.length)++de segs:=⟨_,rfl⟩;have hPl:P.length+(aq size.toNat).length<=9223372036854775807:=by rw[hP,zA,zA];omega
   have hPl2:(P++aq size.toNat).length+F4.length<=9223372036854775807:=by rw[hP,zA,zA,zA];omega
   rw[<- hP] at hp ⊢;obtain⟨P2,hP2⟩:∃ P2:Txt,P2=P++aq size.toNat:=⟨_,rfl⟩;rw[<- hP2] at hp hPl2;(simp(disch:=first|decide|omega|(intros;exact aj rfl rfl)|simp only[aa]) only[EV,q3,hPl,<- hP2,hPl2,hf,hp,go_sem,seval,ak])
   try simp[trim]
theorem yn (l:List Fil) (n:Txt):(bZ l n).2=0↔bM l n=true:=by
 unfold bZ bM;cases l[ax l n]? with
 | none=>simp
 | some f =>
  simp only[];by_cases h:f.name=n
  ·simp[h]
  ·simp[h]
def qr (tx:Txt) (d:Dsk):Dsk × Int :=
 let c:=am d (bh d.files [110])
 if c.2≠0 then c else
  let p:=am c.1 (bH c.1.files c.1.cap [110] tx)
  if p.2=9 then(let x:=am p.1 (bO p.1.files [110]);if x.2=0 then(x.1,9) else x) else
   if p.2≠0 then p else
    let y:=am p.1 (cq p.1.files [110])
    if y.2≠0 then y else am y.1 (ii y.1.files [110] [109])
def AN (m:Man) (d:Dsk):Dsk × Int :=
 if(bC m).2≠0 then(d,(bC m).2) else
  if bM d.files [110]=true then(let x:=am d (bO d.files [110]);if x.2≠0 then x else qr (bC m).1 x.1) else qr (bC m).1 d
theorem gv {s:Dsk × Int} (h:s.2≠0) (f:Dsk->Dsk × Int):uL s f=s:=by unfold uL;rw[if_neg h]
theorem bn (d:Dsk) (f:Dsk->Dsk × Int):uL (d,0) f=f d:=by unfold uL;rw[if_pos rfl]
theorem j6 {s:Dsk × Int} {e:Int} (h:s.2=e):s=(s.1,e):=by rw[<- h]
theorem BJ (tx:Txt) (d:Dsk):(if(bL [110] (d,0)).2≠0 then bL [110] (d,0) else vH [110] [109] (fO [110] (cN [110] (fD [110] tx (bL [110] (d,0))))))=qr tx d:=by
 unfold qr;have e0:bL [110] (d,0)=am d (bh d.files [110]):=bn _ _;rw[e0];simp only[];generalize am d (bh d.files [110])=c;by_cases h1:c.2=0
 ·rw[if_neg (by simp[h1]),if_neg (by simp[h1]),j6 h1]
  have e1:fD [110] tx (c.1,0)=am c.1 (bH c.1.files c.1.cap [110] tx):=bn _ _;rw[e1];simp only[];generalize am c.1 (bH c.1.files c.1.cap [110] tx)=p;by_cases h2:p.2=9
  ·rw[if_pos h2];unfold cN;rw[if_neg (by simp[h2])]
   have e2:dw [110] (p.1,0)=am p.1 (bO p.1.files [110]):=bn _ _;rw[e2];generalize am p.1 (bO p.1.files [110])=x;by_cases h3:x.2=0
   ·rw[if_pos h3];rfl
   ·rw[if_neg h3];unfold vH fO;rw[gv (s:=x) h3,gv h3]
  ·rw[if_neg h2];unfold cN;rw[if_pos h2];by_cases h3:p.2=0
   ·rw[if_neg (by simp[h3]),j6 h3]
    have e2:fO [110] (p.1,0)=am p.1 (cq p.1.files [110]):=bn _ _;rw[e2];simp only[];generalize am p.1 (cq p.1.files [110])=y;by_cases h4:y.2=0
    ·rw[if_neg (by simp[h4]),j6 h4]
     exact bn _ _
    ·rw[if_pos h4];exact gv h4 _
   ·rw[if_pos h3];unfold vH fO;rw[gv h3,gv h3]
 ·rw[if_pos h1,if_pos h1]
theorem JS (m:Man) (d:Dsk):bR m (d,0)=AN m d:=by
 unfold bR AN;simp only[if_true];by_cases h1:(bC m).2=0
 ·rw[if_neg (c:=(bC m).2≠0) (by simp[h1])]
  by_cases h2:bM d.files [110]=true
  ·rw[if_pos h2,if_pos ((yn _ _).2 h2),h1];have e0:dw [110] (d,0)=am d (bO d.files [110]):=bn _ _;rw[e0];generalize am d (bO d.files [110])=x;by_cases h3:x.2=0
   ·rw[if_neg (c:=x.2≠0) (by simp[h3]),j6 h3];exact BJ _ _
   ·rw[if_pos (c:=x.2≠0) h3];have e1:bL [110] x=x:=gv h3 _;simp only[e1];rw[if_pos (c:=x.2≠0) h3]
  ·rw[if_neg h2,if_neg (fun h=>h2 ((yn _ _).1 h)),h1]
   exact BJ _ _
 ·rw[if_pos h1];have e0:dw [110] (d,(bC m).2)=(d,(bC m).2):=gv h1 _;rw[e0,ite_self];have e1:bL [110] (d,(bC m).2)=(d,(bC m).2):=gv h1 _;rw[e1,if_pos h1]
theorem zh (d:Dsk) {k u:Nat} (hd:okN k u d) (hk:k<=900000) (hu:u<=900000000000) (m:Man) (hm:m.ok):call 71 [.agg d.l,.agg m.l] []=some (aP (bR m (d,0)),[]):=by
 rw[JS];have q0:=vz m hm;have hpl:=kE m;unfold AN;generalize bC m=p0 at *;obtain⟨tx,pe⟩:=p0;obtain⟨mv,ms,mz,mm⟩:=m;have q1:=fC d (Nat.le_trans hd.len (by omega)) hd.srt [110]
 have q2:=kn d (hd.ok (by omega) (by omega)) [110]
 have k1:okN k u (am d (bO d.files [110])).1:=dL (s:=(d,0)) hd [110];simp only[Man.l] at q0 hpl ⊢;apply ah Sj rfl;by_cases c0:pe=0
 ·subst c0;rw[if_neg (by simp)]
  cases c1:bM d.files [110] with
  | true =>
   rw[if_pos rfl];rw[gq c1] at q1;generalize ax d.files [110]=pp at *;generalize am d (bO d.files [110])=x at *;by_cases c2:x.2=0
   ·rw[if_neg (by simp[c2])]
    rw[j6 c2] at q2;generalize x.1=y at *;have t1:=kN y (k1.ok (by omega) (by omega)) [110]
    have k2:=dY (s:=(y,0)) k1 [110];have ec:bL [110] (y,0)=am y (bh y.files [110]):=bn _ _;rw[ec] at k2;unfold qr;simp only[];generalize am y (bh y.files [110])=c at *;by_cases c3:c.2=0
    ·rw[if_neg (by simp[c3])]
     have t2:=nU c.1 (k2.ok (by omega) (by omega)) [110] tx (by omega)
     have k3:=iZ (s:=(c.1,0)) k2 [110] tx;have ea:fD [110] tx (c.1,0)=am c.1 (bH c.1.files c.1.cap [110] tx):=bn _ _;rw[ea] at k3;generalize am c.1 (bH c.1.files c.1.cap [110] tx)=p at *;have t3:=kn p.1 (k3.ok (by omega) (by omega)) [110]
     have t4:=sA p.1 (k3.ok (by omega) (by omega)) [110]
     have k4:=kL (s:=(p.1,0)) k3 [110];have es:fO [110] (p.1,0)=am p.1 (cq p.1.files [110]):=bn _ _;rw[es] at k4;generalize am p.1 (bO p.1.files [110])=r at *;generalize am p.1 (cq p.1.files [110])=w at *;have t5:=n8 w.1 (k4.ok (by omega) (by omega)) [110] [109]
     generalize am w.1 (ii w.1.files [110] [109])=v at *;obtain⟨⟨f1,cp1,ar1,lf1,dn1⟩,e1⟩:=c;obtain⟨⟨f2,cp2,ar2,lf2,dn2⟩,e2⟩:=p;obtain⟨⟨f3,cp3,ar3,lf3,dn3⟩,e3⟩:=r;obtain⟨⟨f4,cp4,ar4,lf4,dn4⟩,e4⟩:=w;obtain⟨⟨f5,cp5,ar5,lf5,dn5⟩,e5⟩:=v;obtain⟨fy,cpy,ary,lfy,dny⟩:=y;obtain⟨fl,cp,ar,lf,dn⟩:=d;simp only[aP,Dsk.l] at q1 q2 t1 t2 t3 t4 t5 c3 ⊢;subst c3;by_cases c4:e2=9
     ·subst c4;rw[if_pos rfl];by_cases c5:e3=0
      ·subst c5;(simp(disch:=first|decide|omega|(intros;exact aj rfl rfl)|simp only[aa]) only[aF,zm,q0,q1,q2,t1,t2,t3,go_sem,seval,ak])
       try simp[trim]
      ·(simp(disch:=first|decide|omega|(intros;exact aj rfl rfl)|simp only[aa]) only[aF,zm,q0,q1,q2,t1,t2,t3,c5,go_sem,seval,ak])
       try simp[trim,c5]
     ·rw[if_neg c4];by_cases c5:e2=0
      ·subst c5;by_cases c6:e4=0
       ·subst c6;(simp(disch:=first|decide|omega|(intros;exact aj rfl rfl)|simp only[aa]) only[aF,zm,q0,q1,q2,t1,t2,t4,t5,go_sem,seval,ak])
        try simp[trim]
       ·(simp(disch:=first|decide|omega|(intros;exact aj rfl rfl)|simp only[aa]) only[aF,zm,q0,q1,q2,t1,t2,t4,c6,go_sem,seval,ak])
        try simp[trim,c6]
      ·(simp(disch:=first|decide|omega|(intros;exact aj rfl rfl)|simp only[aa]) only[aF,zm,q0,q1,q2,t1,t2,c4,c5,go_sem,seval,ak])
       try simp[trim,c4,c5]
    ·rw[if_pos c3];obtain⟨⟨f1,cp1,ar1,lf1,dn1⟩,e1⟩:=c;obtain⟨fy,cpy,ary,lfy,dny⟩:=y;obtain⟨fl,cp,ar,lf,dn⟩:=d;simp only[aP,Dsk.l] at q1 q2 t1 c3 ⊢;(simp(disch:=first|decide|omega|(intros;exact aj rfl rfl)|simp only[aa]) only[aF,zm,q0,q1,q2,t1,c3,go_sem,seval,ak])
     try simp[trim,c3]
   ·rw[if_pos c2];obtain⟨⟨fx,cpx,arx,lfx,dnx⟩,ex⟩:=x;obtain⟨fl,cp,ar,lf,dn⟩:=d;simp only[aP,Dsk.l] at q1 q2 c2 ⊢;(simp(disch:=first|decide|omega|(intros;exact aj rfl rfl)|simp only[aa]) only[aF,zm,q0,q1,q2,c2,go_sem,seval,ak])
    try simp[trim,c2]
  | false =>
   rw[if_neg (by simp)]
   rw[i5 c1] at q1;clear q2 k1;have k1:=hd;obtain⟨y,hy⟩:∃ y,y=d:=⟨_,rfl⟩;have q2:True:=trivial;rw[<- hy] at k1;have hyd:qr tx d=qr tx y:=by rw[hy]
   rw[hyd];have t1:=kN y (k1.ok (by omega) (by omega)) [110]
   have k2:=dY (s:=(y,0)) k1 [110];have ec:bL [110] (y,0)=am y (bh y.files [110]):=bn _ _;rw[ec] at k2;unfold qr;simp only[];generalize am y (bh y.files [110])=c at *;by_cases c3:c.2=0
   ·rw[if_neg (by simp[c3])]
    have t2:=nU c.1 (k2.ok (by omega) (by omega)) [110] tx (by omega)
    have k3:=iZ (s:=(c.1,0)) k2 [110] tx;have ea:fD [110] tx (c.1,0)=am c.1 (bH c.1.files c.1.cap [110] tx):=bn _ _;rw[ea] at k3;generalize am c.1 (bH c.1.files c.1.cap [110] tx)=p at *;have t3:=kn p.1 (k3.ok (by omega) (by omega)) [110]
    have t4:=sA p.1 (k3.ok (by omega) (by omega)) [110]
    have k4:=kL (s:=(p.1,0)) k3 [110];have es:fO [110] (p.1,0)=am p.1 (cq p.1.files [110]):=bn _ _;rw[es] at k4;generalize am p.1 (bO p.1.files [110])=r at *;generalize am p.1 (cq p.1.files [110])=w at *;have t5:=n8 w.1 (k4.ok (by omega) (by omega)) [110] [109]
    generalize am w.1 (ii w.1.files [110] [109])=v at *;obtain⟨⟨f1,cp1,ar1,lf1,dn1⟩,e1⟩:=c;obtain⟨⟨f2,cp2,ar2,lf2,dn2⟩,e2⟩:=p;obtain⟨⟨f3,cp3,ar3,lf3,dn3⟩,e3⟩:=r;obtain⟨⟨f4,cp4,ar4,lf4,dn4⟩,e4⟩:=w;obtain⟨⟨f5,cp5,ar5,lf5,dn5⟩,e5⟩:=v;subst hy;obtain⟨fl,cp,ar,lf,dn⟩:=y;simp only[aP,Dsk.l] at q1 t1 t2 t3 t4 t5 c3 ⊢;subst c3;by_cases c4:e2=9
    ·subst c4;rw[if_pos rfl];by_cases c5:e3=0
     ·subst c5;(simp(disch:=first|decide|omega|(intros;exact aj rfl rfl)|simp only[aa]) only[aF,zm,q0,q1,t1,t2,t3,go_sem,seval,ak])
      try simp[trim]
     ·(simp(disch:=first|decide|omega|(intros;exact aj rfl rfl)|simp only[aa]) only[aF,zm,q0,q1,t1,t2,t3,c5,go_sem,seval,ak])
      try simp[trim,c5]
    ·rw[if_neg c4];by_cases c5:e2=0
     ·subst c5;by_cases c6:e4=0
      ·subst c6;(simp(disch:=first|decide|omega|(intros;exact aj rfl rfl)|simp only[aa]) only[aF,zm,q0,q1,t1,t2,t4,t5,go_sem,seval,ak])
       try simp[trim]
      ·(simp(disch:=first|decide|omega|(intros;exact aj rfl rfl)|simp only[aa]) only[aF,zm,q0,q1,t1,t2,t4,c6,go_sem,seval,ak])
       try simp[trim,c6]
     ·(simp(disch:=first|decide|omega|(intros;exact aj rfl rfl)|simp only[aa]) only[aF,zm,q0,q1,t1,t2,c4,c5,go_sem,seval,ak])
      try simp[trim,c4,c5]
   ·rw[if_pos c3];obtain⟨⟨f1,cp1,ar1,lf1,dn1⟩,e1⟩:=c;subst hy;obtain⟨fl,cp,ar,lf,dn⟩:=y;simp only[aP,Dsk.l] at q1 t1 c3 ⊢;(simp(disch:=first|decide|omega|(intros;exact aj rfl rfl)|simp only[aa]) only[aF,zm,q0,q1,t1,c3,go_sem,seval,ak])
    try simp[trim,c3]
 ·rw[if_pos c0];obtain⟨fl,cp,ar,lf,dn⟩:=d;simp only[aP,Dsk.l] at ⊢;(simp(disch:=first|decide|omega|(intros;exact aj rfl rfl)|simp only[aa]) only[aF,zm,q0,c0,go_sem,seval,ak])
  try simp[trim,c0]
theorem Jh (d:Dsk):aI d=(let c:=am d (bh d.files (fileN 0));if c.2≠0 then(⟨c.1,0,[],0,0,0,0⟩,c.2) else
  let w:=bR ⟨1,[0],0,0⟩ (c.1,0);if w.2≠0 then(⟨w.1,0,[],0,0,0,0⟩,w.2) else(⟨w.1,1,[⟨0,0,0⟩],0,0,0,0⟩,0)):=by
 unfold aI;have e0:bL (fileN 0) (d,0)=am d (bh d.files (fileN 0)):=bn _ _;rw[e0];simp only[];generalize am d (bh d.files (fileN 0))=c;by_cases h:c.2=0
 ·rw[if_pos h,if_neg (show ¬ (c.2≠0) from by simp[h]),<- j6 h]
  generalize bR ⟨1,[0],0,0⟩ c=w;by_cases h2:w.2=0
  ·simp[h2]
  ·simp[h2]
 ·simp[h]
theorem Dq {k u:Nat} (d:Dsk) (hd:okN k u d) (hk:k<=800000) (hu:u<=800000000000):call 48 [.agg d.l] []=some (dA (aI d),[]):=by
 rw[Jh];have q1:=DE (n:=0) ⟨by decide,by decide⟩
 have q2:=kN d (hd.ok (by omega) (by omega)) (fileN 0)
 have k1:okN (k+1) u (am d (bh d.files (fileN 0))).1:=by
  have:=dY (s:=(d,0)) hd (fileN 0);exact this
 have q3:=fun dd:Dsk=>DG ⟨dd,1,[⟨0,0,0⟩],0,0,0,0⟩ (by simp)
 simp only[];generalize am d (bh d.files (fileN 0))=c at *;have q3:=q3 c.1;have q4:=zh c.1 k1 (by omega) (by omega) ⟨1,[0],0,0⟩ ⟨by simp,by simp⟩
 generalize bR ⟨1,[0],0,0⟩ (c.1,0)=w at *;apply ah S8 rfl;generalize fileN 0=N at *;obtain⟨fl,cp,ar,lf,dn⟩:=d;obtain⟨⟨f1,cp1,ar1,lf1,dn1⟩,e1⟩:=c;obtain⟨⟨f3,cp3,ar3,lf3,dn3⟩,e3⟩:=w;simp only[aP,Dsk.l,Sto.l,Seg.enc,Sto.man,Man.l,List.cons_append,List.nil_append,List.map_cons,List.map_nil,eI] at q1 q2 q3 q4 ⊢;by_cases c1:e1=0
 ·subst c1;by_cases c3:e3=0
  ·subst c3;(simp(disch:=first|decide|omega|(intros;exact aj rfl rfl)|simp only[aa]) only[aF,Pm,q1,q2,↓oQ,Hx,iU,tU,cr,q3,q4,go_sem,seval,ak,bI,A.kind,A.xs,aD,A.isN])
   try simp[trim,dA,Sto.l,Dsk.l,Seg.enc]
  ·(simp(disch:=first|decide|omega|(intros;exact aj rfl rfl)|simp only[aa]) only[aF,Pm,q1,q2,↓oQ,Hx,iU,tU,cr,q3,q4,c3,go_sem,seval,ak,bI,A.kind,A.xs,aD,A.isN])
   try simp[trim,dA,Sto.l,Dsk.l,Seg.enc,c3]
 ·(simp(disch:=first|decide|omega|(intros;exact aj rfl rfl)|simp only[aa]) only[aF,Pm,q1,q2,c1,go_sem,seval,ak,bI,A.kind,A.xs,aD,A.isN])
  try simp[trim,dA,Sto.l,Dsk.l,Seg.enc,c1]
theorem IU (n:Int):(n != n)=false:=by simp
theorem Hr (n:Bool):(n != n)=false:=by simp
def gN (f:Seg->Int):List Seg->Int
 | []=>0
 | g::r=>f g+gN f r
theorem EZ (f:Seg->Int) (u:Nat):∀ (l:List Seg),(∀ g∈l,0<=f g∧f g<=u)->0<=gN f l∧gN f l<=l.length*u
 | [],_=>by simp[gN]
 | x::r,h=>by
  have h1:=h x (by simp)
  have h2:=EZ f u r (fun g hg=>h g (by simp[hg]))
  simp only[gN,List.length_cons];rw[Int.natCast_add,Int.add_mul];omega
theorem E6 (f:Seg->Int) (l:List Seg) (hl:l.length<=1000) (h:∀ g∈l,0<=f g∧f g<=(1000000000000:Nat)) (i:Nat):0<=gN f (l.take i)∧gN f (l.take i)<=1000000000000000:=by
 have:=EZ f 1000000000000 (l.take i) (fun g hg=>h g (zZ hg))
 have h2:(l.take i).length<=1000:=Nat.le_trans (List.length_take_le' _ _) hl;have h3:((l.take i).length:Int)*((1000000000000:Nat):Int)<=1000*1000000000000:=by omega
 omega
def Gm (l:List Seg) (keep count:Int):Bool:=decide (1<l.length) && (decide (keep<gN Seg.size (l.take (l.length-1))) || decide (count<gN Seg.n l))
def G7 (l:List Seg):Prop:=l.length<=1000∧∀ g∈l,(0<=g.n∧g.n<=(1000000000000:Nat))∧(0<=g.size∧g.size<=(1000000000000:Nat))
def dJ (l:List Seg) (keep count:Int) (k:Nat):Bool := !Gm (l.drop k) keep count
def d8 (l:List Seg) (keep count:Int):Nat:=match (List.range l.length).find? (dJ l keep count) with|some k=>k|none=>0
theorem tu (l:List Seg) (keep count:Int) (h:d8 l keep count≠0):d8 l keep count<l.length:=by
 unfold d8 at *;cases hf:(List.range l.length).find? (dJ l keep count) with
 | none=>rw[hf] at h;exact absurd rfl h
 | some k=>simpa using List.mem_of_find?_eq_some hf
def Sto.scans (s:Sto):List SR:=s.segs.map fun g=>(g,(ib (s.txt g) g.base).1.map (·.1))
def aN (n:Int):Txt:=fc 116 n.toNat
theorem lz {n:Int} (h:0<=n∧n<=1099511627776):call 108 [vi n] []=some (vs (aN n),[]):=by
 apply ah Rt rfl;have h1:=t8 116 n.toNat (by omega)
 have e:(((116:UInt8).toNat:Nat):Int)=116:=rfl;have e2:((n.toNat:Nat):Int)=n:=by omega
 rw[e,e2] at h1;have e3:aN n=fc 116 n.toNat:=rfl;rw[e3];(simp(disch:=first|decide|omega|(intros;exact aj rfl rfl)|simp only[aa]) only[OX,h1,go_sem,seval,ak])
 try simp[trim]
theorem gU {k u:Nat} {s:Sto} (h:okS k u s):0<=s.floor∧s.floor<=1099511627776:=by
 have:=h.len;unfold Sto.floor;split
 ·omega
 ·rename_i g r he;exact(h.seg g (by rw[he];simp)).1
def dU (s:Sto):Txt:=if s.floor=0 then[] else(bZ s.disk.files (aN s.floor)).1
theorem Fs (t:List UInt8) (h:(gY t).2=0):whyF (gY t).1=0:=by
 unfold gY at *;split at h
 ·exact absurd h (by decide)
 ·split at h
  ·exact absurd h (by decide)
  ·rename_i n k _ _ m j _;by_cases c:whyF ⟨n,m,t.drop (k+j)⟩=0
   ·simp only[if_pos c];exact c
   ·simp only[if_neg c] at h;exact absurd h c
theorem rH (s:List UInt8):∀ (f a:Nat) (b:Int),∀ x∈(bK f s a b).1,whyF x.1=0
 | 0,a,b,x,hx=>by simp[bK] at hx
 | f+1,a,b,x,hx=>by
  by_cases ha:a<s.length
  ·obtain⟨⟨t,n,e⟩,hn⟩:∃ y,gT s a=y:=⟨_,rfl⟩;by_cases he:e=0
   ·subst he;by_cases hg:(gY t).2=0
    ·by_cases hb:(gY t).1.at_=b
     ·rw[eu ha hn hg hb] at hx;rcases List.mem_cons.1 hx with rfl|hx
      ·exact Fs t hg
      ·exact rH s f n (b+1) x hx
     ·rw[gB ha hn hg hb] at hx;cases hx
    ·rw[gL ha hn hg] at hx;cases hx
   ·rw[f9 ha hn he] at hx;cases hx
  ·rw[fH (Nat.not_lt.1 ha)] at hx;cases hx
theorem ym (s:List UInt8) (b:Int):∀ x∈(ib s b).1,whyF x.1=0:=by
 intro x hx;unfold ib at hx;split at hx
 ·exact rH s _ _ _ x hx
 ·cases hx
theorem wH {r:Rec} (h:whyF r=0):r.da.length<=64:=by
 unfold whyF at h;split at h
 ·split at h
  ·assumption
  ·exact absurd h (by decide)
 ·exact absurd h (by decide)
def qv (s:Sto) (off:Int):List UInt8:=if off<0∨s.next<=off then[] else match (aX s.scans).find? (fun r=>decide (r.at_=off)) with
 | some r=>r.da
 | none=>[]
theorem FD (s:Sto) (off:Int):(qv s off).length<=64:=by
 unfold qv;split
 ·simp
 ·cases hf:(aX s.scans).find? (fun r=>decide (r.at_=off)) with
  | none=>simp
  | some r =>
   have hm:=List.mem_of_find?_eq_some hf;simp only[aX,Sto.scans,List.flatMap_map,List.mem_flatMap,List.mem_map] at hm;obtain⟨g,_,x,hx,rfl⟩:=hm;exact wH (ym _ _ x hx)
theorem Bq (P Q:Pr->Bool) (h:∀ p,P p=true->Q p=false):∀ l:List Pr,(l.takeWhile P).length+(l.filter Q).length<=l.length
 | []=>by simp
 | x::r=>by
  rw[List.takeWhile_cons,List.filter_cons];by_cases hp:P x=true
  ·have hq:=h x hp;have:=Bq P Q h r;simp[hp,hq];omega
  ·have h2:(r.filter Q).length<=r.length:=List.length_filter_le _ _;rw[if_neg hp];by_cases hq:Q x=true <;> simp[hq] <;> omega
theorem step_len (l:List Pr) (d:List UInt8):(cH l d).length<=l.length+1:=by
 cases d with
 | nil=>simp[cH]
 | cons c r =>
  have h1:=Bq (fun p=>decide (p.key<(c.toNat:Int))) (fun p=>decide ((c.toNat:Int)<p.key)) (fun p hp=>by simp at hp ⊢;omega) l
  simp only[cH,zA];split <;> simp at h1 ⊢ <;> omega
def okP (l:List Pr):Prop:=∀ p∈l,(0<=p.key∧p.key<256)∧p.val.length<=64
theorem step_ok {l:List Pr} (h:okP l) {d:List UInt8} (hd:d.length<=64):okP (cH l d):=by
 cases d with
 | nil=>exact h
 | cons c r =>
  intro p hp;simp only[cH,zX] at hp;rcases hp with(hp|hp)|hp
  ·exact h p ((List.takeWhile_sublist _).subset hp)
  ·split at hp
   ·cases hp
   ·rw[zV] at hp;subst hp;have:=UInt8.toNat_lt c;simp at hd;exact⟨⟨by simp only[];omega,by simp only[];omega⟩,by simp only[];omega⟩
  ·exact h p (List.mem_filter.1 hp).1
theorem BM (s:List UInt8):∀ (n a:Nat) (out:List Pr) (r:List Pr × Nat),hI s n a out=some r->(∀ p∈out,0<=p.key∧p.key<256)->(∀ p∈r.1,0<=p.key∧p.key<256)∧r.1.length=out.length+n
 | 0,a,out,r,h,ho=>by simp only[hI] at h;cases h;exact⟨ho,rfl⟩
 | n+1,a,out,r,h,ho=>by
  simp only[hI] at h;split at h
  ·rename_i p b hp;have hk:0<=p.key∧p.key<256:=by
    unfold qw at hp;split at hp
    ·split at hp
     ·cases hp
     ·cases hp;have:=UInt8.toNat_lt (s[a]?.getD 0);exact⟨by simp only[];omega,by simp only[];omega⟩
    ·cases hp
   have:=BM s n b (out++[p]) r h (fun q hq=>by
    rcases zX.1 hq with hq|hq
    ·exact ho q hq
    ·rw[zV.1 hq];exact hk)
   refine⟨this.1,?_⟩;rw[this.2];simp;omega
  ·cases h
theorem Cn {l:List Pr} (h:fu l=true):∀ p∈l,p.val.length<=64:=by
 intro p hp;obtain⟨i,hi,rfl⟩:=zJ hp;have:=(List.all_eq_true.1 h) i (by simpa using hi)
 simp only[qF,zE hi,vf,Bool.and_eq_true,decide_eq_true_eq] at this;omega
theorem rQ {s:List UInt8} {l:List Pr} (h:bA s=some l):okP l∧l.length<=256:=by
 unfold bA at h;split at h
 ·rename_i n k _;split at h
  ·cases h
  ·rename_i hn;unfold nG at h;split at h
   ·rename_i out a ho;split at h
    ·rename_i hc;cases h;have:=BM s n k [] _ ho (fun p hp=>by cases hp)
     have hv:=Cn hc.2;refine⟨fun p hp=>⟨this.1 p hp,hv p hp⟩,?_⟩
     rw[this.2];simp;omega
    ·cases h
   ·cases h
 ·cases h
def vu (s:Sto):Nat->Int->List Pr->List Pr
 | 0,_,l=>l
 | n+1,i,l=>vu s n (i+1) (cH l (qv s i))
def bJ (s:Sto) (off:Int):List Pr:=vu s (off-s.floor).toNat s.floor ((bA (dU s)).getD [])
theorem EN (s:Sto):∀ (n:Nat) (i:Int) (l:List Pr),okP l->okP (vu s n i l)∧(vu s n i l).length<=l.length+n
 | 0,i,l,h=>⟨h,by simp[vu]⟩
 | n+1,i,l,h=>by
  have h1:=EN s n (i+1) (cH l (qv s i)) (step_ok h (FD s i));have h2:=step_len l (qv s i);exact⟨h1.1,by simp only[vu];omega⟩
theorem xC (s:Sto) (off:Int):okP (bJ s off)∧(bJ s off).length<=256+(off-s.floor).toNat:=by
 have h:okP ((bA (dU s)).getD [])∧((bA (dU s)).getD []).length<=256:=by
  cases hp:bA (dU s) with
  | none=>exact⟨fun p hp=>(by simp at hp),by simp⟩
  | some l=>exact rQ hp
 have:=EN s (off-s.floor).toNat s.floor _ h.1;exact⟨this.1,by unfold bJ;omega⟩
def cw (x:Txt):Int:=(((cA 0#32 x).toNat:Nat):Int)
theorem n5 (x:Txt):0<=cw x∧cw x<4294967296:=by
 have:=(cA 0#32 x).isLt;unfold cw;omega
def nz (d:Dsk) (n x:Txt) (m:Man):Dsk × Int :=
 let a:=bL n (d,0)
 let b:=if a.2=0 then cN n (fD n x a) else a
 let c:=fO n b
 if c.2=0 then cN n (bR m c) else c
def Cj (l:List Seg) (s:Dsk × Int):Dsk × Int:=l.foldl (fun s g=>dw (fileN g.base) s) s
def zv (s:Sto) (k:Nat) (q:Dsk × Int):Dsk × Int :=
 let r:=Cj (s.segs.take k) q
 if r.2=0∧0<s.floor then dw (aN s.floor) r else r
def aU (l:List Seg) (k:Nat):Int:=match l[k]? with|some g=>g.base|none=>0
def eb (s:Sto) (k:Nat):Sto:={ s with ver:=s.ver+1,segs:=s.segs.drop k,size:=((aZ (bJ s (aU s.segs k))).length:Nat),sum:=cw (aZ (bJ s (aU s.segs k))) }
def rC (s:Sto) (k:Nat):Sto × Int :=
 let e:=nz s.disk (aN (aU s.segs k)) (aZ (bJ s (aU s.segs k))) (eb s k).man
 if e.2≠0 then({ s with disk:=e.1 },e.2) else({ eb s k with disk:=(zv s k e).1 },(zv s k e).2)
def cM (s:Sto) (keep count:Int):Sto × Int:=if d8 s.segs keep count=0 then(s,0) else rC s (d8 s.segs keep count)
theorem vy {k u:Nat}:∀ (l:List Seg) (s:Dsk × Int),okN k u s.1->okN k u (Cj l s).1
 | [],s,h=>h
 | g::l,s,h=>vy l _ (dL h _)
theorem LL {k u:Nat} {s:Sto} {n:Nat} {q:Dsk × Int} (h:okN k u q.1):okN k u (zv s n q).1:=by
 unfold zv;simp only[];split
 ·exact dL (vy _ _ h) _
 ·exact vy _ _ h
theorem Hq {k u:Nat} {d:Dsk} (h:okN k u d) (n x:Txt) (m:Man):okN (k+2) (u+x.length+800) (nz d n x m).1:=by
 unfold nz;simp only[];have h1:=dY (s:=(d,0)) h n;have h2:okN (k+1) (u+x.length) (if(bL n (d,0)).2=0 then cN n (fD n x (bL n (d,0))) else bL n (d,0)).1:=by
  split
  ·exact kP (iZ h1 n x) n
  ·exact h1.up (by omega) (by omega)
 generalize (if(bL n (d,0)).2=0 then cN n (fD n x (bL n (d,0))) else bL n (d,0))=b at *
 have h3:=kL h2 n;split
 ·exact kP (gS h3 m) n
 ·exact h3.up (by omega) (by omega)
theorem x8 (n:Nat) (h:n<9223372036854775808):(aq n).length<=9:=du h
theorem pa {l:List Pr} (h:okP l) (hl:l.length<=1000000):(aZ l).length<=9+74*l.length:=by
 have h1:∀ l:List Pr,okP l->(l.flatMap gV).length<=74*l.length:=by
  intro l;induction l with
  | nil=>intro _;simp
  | cons p r ih =>
   intro h;have hp:=(h p (by simp)).2
   have hr:=ih (fun q hq=>h q (by simp[hq]))
   have he:=x8 p.val.length (by omega)
   rw[List.flatMap_cons,zA];simp only[gV,List.length_cons,zA];omega
 have h2:=h1 l h;have h3:=x8 l.length (by omega)
 unfold aZ;rw[zA];omega
theorem im {l:List Seg} {k:Nat} (h:k<l.length):l[k]?=some l[k]∧aU l k=l[k].base:=by
 have e:l[k]?=some l[k]:=zE h;exact⟨e,by unfold aU;rw[e]⟩
theorem u7 {k u:Nat} {s:Sto} (h:okS k u s) {n:Nat} (hn:n<s.segs.length):0<=aU s.segs n∧aU s.segs n<=1099511627776:=by
 rw[(im hn).2];exact(h.seg _ (zN hn)).1
theorem GD {k u:Nat} {s:Sto} (h:okS k u s) {n:Nat} (hn:n<s.segs.length) (hb:aU s.segs n<=s.floor+40):okS (k+2) (u+23000) (rC s n).1:=by
 have hs:=xC s (aU s.segs n);have hlen:=pa hs.1 (by omega)
 have hl:=Hq h.dsk (aN (aU s.segs n)) (aZ (bJ s (aU s.segs n))) (eb s n).man;have hl':=hl.up (k':=k+2) (u':=u+23000) (Nat.le_refl _) (by omega)
 unfold rC;simp only[];split
 ·exact⟨hl',h.len,fun g hg=>by have:=h.seg g hg;omega,h.next,by have:=h.ver;simp only[];omega,h.sum⟩
 ·refine⟨LL hl',?_,fun g hg=>?_,h.next,?_,n5 _⟩
  ·show 1<=(s.segs.drop n).length∧(s.segs.drop n).length<=64;have:=h.len;simp;omega
  ·have:=h.seg g (List.mem_of_mem_drop hg);omega
  ·show 0<=s.ver+1∧s.ver+1<=((u+23000:Nat):Int);have:=h.ver;omega
abbrev FM:=Txt->Option (Txt × Int)
def fm (l:List Fil):FM:=fun n=>(l.find? fun f=>decide (f.name=n)).map fun f=>(f.data,f.sure)
def up (F:FM) (n:Txt) (v:Option (Txt × Int)):FM:=fun k=>if k=n then v else F k
theorem cR (F:FM) (n:Txt) (v:Option (Txt × Int)):up F n v n=v:=if_pos rfl
theorem bm (F:FM) {n k:Txt} (v:Option (Txt × Int)) (h:k≠n):up F n v k=F k:=if_neg h
theorem iS (F:FM) (n:Txt) (v w:Option (Txt × Int)):up (up F n v) n w=up F n w:=by
 funext k;unfold up;split <;> rfl
theorem kG {F:FM} {n:Txt} {v:Option (Txt × Int)} (h:F n=v):up F n v=F:=by
 funext k;unfold up;split
 ·rename_i e;rw[e,h]
 ·rfl
theorem wG {l:List Fil} {n:Txt}:fm l n=none↔∀ f∈l,f.name≠n:=by
 unfold fm;rw[Option.map_eq_none_iff,List.find?_eq_none];simp
theorem zn (A:List Fil) (x:Fil) (B:List Fil) (h:∀ a∈A,a.name≠x.name):fm (A++x::B)=up (fm (A++B)) x.name (some (x.data,x.sure)):=by
 funext k
 unfold fm up;simp only[List.find?_append,List.find?_cons];by_cases c:k=x.name
 ·have hn:A.find? (fun f=>decide (f.name=k))=none:=by
   rw[List.find?_eq_none];intro a ha;simpa[c] using h a ha
  rw[if_pos c,hn];simp[c]
 ·rw[if_neg c];have:decide (x.name=k)=false:=by simpa using fun e=>c e.symm
  rw[this]
theorem Bu {l:List Fil} (hs:srt l) {i:Nat} (hi:i<l.length):(∀ a∈l.take i,a.name≠l[i].name)∧(∀ b∈l.drop (i+1),b.name≠l[i].name):=by
 constructor
 ·intro a ha;obtain⟨j,hj,rfl⟩:=zJ ha;rw[zQ] at hj;rw[List.getElem_take];exact wP ((List.pairwise_iff_getElem.1 hs) j i (by omega) hi (by omega))
 ·intro b hb;obtain⟨j,hj,rfl⟩:=zJ hb;rw[zH] at hj;rw[List.getElem_drop];exact fun e=>wP ((List.pairwise_iff_getElem.1 hs) i (i+1+j) hi (by omega) (by omega)) e.symm
theorem Jw (l:List Fil) {i:Nat} (hi:i<l.length):l=l.take i++l[i]::l.drop (i+1):=by
 conv=>lhs;rw[<- zY i l,zD hi]
theorem ph {l:List Fil} (hs:srt l) {i:Nat} (hi:i<l.length):fm l=up (fm (eR l i)) l[i].name (some (l[i].data,l[i].sure))∧fm (eR l i) l[i].name=none:=by
 have h:=Bu hs hi;constructor
 ·conv=>lhs;rw[Jw l hi]
  exact zn _ _ _ h.1
 ·rw[wG];intro f hf;rcases zX.1 hf with hf|hf
  ·exact h.1 f hf
  ·exact h.2 f hf
theorem E7 {l:List Fil} (hs:srt l) {i:Nat} (hi:i<l.length):fm (eR l i)=up (fm l) l[i].name none:=by
 have h:=ph hs hi;rw[h.1,iS,kG h.2]
theorem FH {l:List Fil} (hs:srt l) {i:Nat} (hi:i<l.length) (g:Fil) (hg:g.name=l[i].name):fm (l.set i g)=up (fm l) l[i].name (some (g.data,g.sure)):=by
 have h:=Bu hs hi;have e:l.set i g=l.take i++g::l.drop (i+1):=by rw[List.set_eq_take_append_cons_drop,if_pos hi]
 rw[e,zn _ _ _ (fun a ha=>by rw[hg];exact h.1 a ha),hg]
 have h2:=ph hs hi;rw[h2.1,iS];try rfl
theorem lG {l:List Fil} (hs:srt l) (n:Txt):bM l n=(fm l n).isSome:=by
 cases h:bM l n with
 | true =>
  obtain⟨hp,he⟩:=cd h;rw[(ph hs hp).1,he,cR];rfl
 | false =>
  rw[wG.2 (mA hs h)];rfl
theorem vD {l:List Fil} (hs:srt l) {n:Txt} {v:Txt × Int} (h:fm l n=some v):∃ hp:ax l n<l.length,l[ax l n].name=n∧(l[ax l n].data,l[ax l n].sure)=v:=by
 have h1:bM l n=true:=by rw[lG hs,h];rfl
 obtain⟨hp,he⟩:=cd h1;refine⟨hp,he,?_⟩;have h2:=(ph hs hp).1;rw[h2,he,cR] at h;exact Option.some.inj h
theorem Bp {l:List Fil} (hs:srt l) (n:Txt):bZ l n=match fm l n with|some v=>(v.1,0)|none=>([],7):=by
 cases h:fm l n with
 | some v =>
  obtain⟨hp,he,hv⟩:=vD hs h;subst hv;unfold bZ;rw[zE hp];simp only[if_pos he]
 | none =>
  have h1:bM l n=false:=by rw[lG hs,h];rfl
  unfold bZ;unfold bM at h1;split
  ·rename_i f hf;rw[hf] at h1;rw[if_neg (by simpa using h1)]
  ·rfl
theorem kT {l:List Fil} (hs:srt l) (n d:Txt):hasD l n d↔∃ q,fm l n=some (d,q):=by
 constructor
 ·rintro⟨f,hf,rfl,rfl⟩;obtain⟨i,hi,rfl⟩:=zJ hf;exact⟨l[i].sure,by rw[(ph hs hi).1,cR]⟩
 ·rintro⟨q,h⟩;obtain⟨hp,he,hv⟩:=vD hs h;exact⟨l[ax l n],zN hp,he,congrArg Prod.fst hv⟩
theorem Fi {l:List Fil} (hs:srt l) {n:Txt} (d:Txt) (q:Int) (h:fm l n=none):fm (gP l (ax l n) ⟨n,d,q⟩)=up (fm l) n (some (d,q)):=by
 have h2:=wG.1 h;unfold gP;rw[zn _ _ _ (fun a ha=>h2 a (zZ ha)),zY]
theorem MD {l:List Fil} (hs:srt l) (f:Fil):fm (iT l f)=up (fm l) f.name (some (f.data,f.sure)):=by
 unfold iT;split
 ·rename_i h;obtain⟨hp,he⟩:=cd h;rw[FH hs hp f he.symm,he]
 ·rename_i h;have h1:fm l f.name=none:=by
   cases hf:fm l f.name with
   | none=>rfl
   | some v=>exact absurd (by rw[lG hs,hf];rfl) h
  obtain⟨n,d,q⟩:=f;exact Fi hs d q h1
structure Dk (d d':Dsk):Prop where
 cap:d'.cap=d.cap
 armed:d'.armed=d.armed
 down:d.down=true->d'=d
 idle:d.armed=false->d.down=false->d'.down=false∧d'.left=d.left
theorem Dk.refl (d:Dsk):Dk d d:=⟨rfl,rfl,fun _=>rfl,fun _ h=>⟨h,rfl⟩⟩
theorem Dk.trans {a b c:Dsk} (h1:Dk a b) (h2:Dk b c):Dk a c :=
  ⟨h2.cap.trans h1.cap,h2.armed.trans h1.armed,fun h=>by have e:=h1.down h;rw[h2.down (by rw[e];exact h),e],
   fun ha hd=>by
    have e1:=h1.idle ha hd
    have e2:=h2.idle (h1.armed.trans ha) e1.1
    exact⟨e2.1,e2.2.trans e1.2⟩⟩
def Out (d:Dsk) (r:Dsk × Int) (X:List Txt) (G:FM) (G9:Option FM):Prop :=
 Dk d r.1∧srt r.1.files∧((r.2=0∧r.1.down=false∧fm r.1.files=G)∨(∃ g,G9=some g∧r.2=9∧r.1.down=false∧fm r.1.files=g)∨(r.2=10∧r.1.down=true∧∀ n,n ∉ X->fm r.1.files n=fm d.files n))
theorem Out.up9 {d:Dsk} {r:Dsk × Int} {X:List Txt} {G:FM} (h:Out d r X G none) (g:Option FM):Out d r X G g:=by
 refine⟨h.1,h.2.1,?_⟩;rcases h.2.2 with h|⟨_,h,_⟩|h
 ·exact .inl h
 ·cases h
 ·exact .inr (.inr h)
theorem Out.upX {d:Dsk} {r:Dsk × Int} {X Y:List Txt} {G:FM} {g:Option FM} (h:Out d r X G g) (hx:∀ n∈X,n∈Y):Out d r Y G g:=by
 refine⟨h.1,h.2.1,?_⟩;rcases h.2.2 with h|h|h
 ·exact .inl h
 ·exact .inr (.inl h)
 ·exact .inr (.inr ⟨h.1,h.2.1,fun n hn=>h.2.2 n (fun hm=>hn (hx n hm))⟩)
theorem oP {d:Dsk} (hs:srt d.files) {r:List Fil × Int} {G:FM} (h0:r.2=0) (h1:srt r.1) (h2:fm r.1=G):Out d (am d r) [] G none:=by
 unfold am;split
 ·rename_i hd;exact⟨Dk.refl d,hs,.inr (.inr ⟨rfl,hd,fun _ _=>rfl⟩)⟩
 ·rename_i hd;have hd:d.down=false:=by simpa using hd
  rw[if_neg (by simp[h0])]
  split
  ·rename_i ha;split
   ·exact⟨⟨rfl,rfl,fun h=>(by rw[hd] at h;cases h),fun h _=>(by rw[ha] at h;cases h)⟩,hs,.inr (.inr ⟨rfl,rfl,fun _ _=>rfl⟩)⟩
   ·exact⟨⟨rfl,rfl,fun h=>(by rw[hd] at h;cases h),fun h _=>(by rw[ha] at h;cases h)⟩,h1,.inl ⟨rfl,hd,h2⟩⟩
  ·exact⟨⟨rfl,rfl,fun h=>(by rw[hd] at h;cases h),fun _ h=>⟨h,rfl⟩⟩,h1,.inl ⟨rfl,hd,h2⟩⟩
theorem mw {d:Dsk} (hs:srt d.files) {n:Txt} (hn:dm n=true) (h:fm d.files n=none):Out d (am d (bh d.files n)) [] (up (fm d.files) n (some ([],0))) none:=by
 have hf:bM d.files n=false:=by rw[lG hs,h];rfl
 have e:bh d.files n=(gP d.files (ax d.files n) ⟨n,[],0⟩,0):=by unfold bh;rw[if_pos hn,hf];rfl
 rw[e];exact oP hs rfl (wu hs ⟨n,[],0⟩ hf) (Fi hs [] 0 h)
theorem Gf {l:List Fil} (hs:srt l) {n:Txt} {v:Txt × Int} (h:fm l n=some v) (f:Fil->Fil) (hf:∀ x,(f x).name=x.name) :
  srt (qE l (ax l n) f)∧fm (qE l (ax l n) f)=up (fm l) n (some ((f ⟨n,v.1,v.2⟩).data,(f ⟨n,v.1,v.2⟩).sure)):=by
 obtain⟨hp,he,hv⟩:=vD hs h;refine⟨mt (pK l _ f hf) hs,?_⟩;have e2:l[ax l n]=⟨n,v.1,v.2⟩:=by
  generalize l[ax l n]=x at *;obtain⟨a,b,c⟩:=x;simp only at he hv;subst he hv;try rfl
 rw[jG hp,FH hs hp _ (by rw[hf]),he,e2]
theorem qO {d:Dsk} (hs:srt d.files) {n:Txt} (x:Txt) {v:Txt × Int} (h:fm d.files n=some v):Out d (am d (bH d.files d.cap n x)) [] (up (fm d.files) n (some (v.1++x,v.2))) (some (fm d.files)):=by
 have hf:bM d.files n=true:=by rw[lG hs,h];rfl
 by_cases c:0<d.cap∧d.cap-(usedF d.files:Nat)<x.length
 ·have e:bH d.files d.cap n x=([],9):=by unfold bH;rw[if_pos hf,if_pos c]
  rw[e];unfold am;split
  ·rename_i hd;exact⟨Dk.refl d,hs,.inr (.inr ⟨rfl,hd,fun _ _=>rfl⟩)⟩
  ·rename_i hd;rw[if_pos (by decide)]
   exact⟨Dk.refl d,hs,.inr (.inl ⟨_,rfl,rfl,by simpa using hd,rfl⟩)⟩
 ·have e:bH d.files d.cap n x=(qE d.files (ax d.files n) (fun f=>{ f with data:=f.data++x }),0):=by unfold bH;rw[if_pos hf,if_neg c]
  have hu:=Gf hs h (fun f=>{ f with data:=f.data++x }) (fun _=>rfl)
  rw[e];exact(oP hs rfl hu.1 hu.2).up9 _
theorem oC {d:Dsk} (hs:srt d.files) {n:Txt} {v:Txt × Int} (h:fm d.files n=some v):Out d (am d (cq d.files n)) [] (up (fm d.files) n (some (v.1,(v.1.length:Nat)))) none:=by
 have hf:bM d.files n=true:=by rw[lG hs,h];rfl
 have e:cq d.files n=(qE d.files (ax d.files n) (fun f=>{ f with sure:=f.data.length }),0):=by unfold cq;rw[if_pos hf]
 have hu:=Gf hs h (fun f=>{ f with sure:=(f.data.length:Nat) }) (fun _=>rfl)
 rw[e];exact oP hs rfl hu.1 hu.2
theorem vV {d:Dsk} (hs:srt d.files) {n:Txt} {v:Txt × Int} (h:fm d.files n=some v):Out d (am d (bO d.files n)) [] (up (fm d.files) n none) none:=by
 have hf:bM d.files n=true:=by rw[lG hs,h];rfl
 have e:bO d.files n=(eR d.files (ax d.files n),0):=by unfold bO;rw[if_pos hf]
 obtain⟨hp,he⟩:=cd hf;rw[e];exact oP hs rfl (kQ hs _) (by rw[E7 hs hp,he])
theorem I6 {d:Dsk} (hs:srt d.files) {a b:Txt} (hb:dm b=true) {v:Txt × Int} (h:fm d.files a=some v):Out d (am d (ii d.files a b)) [] (up (up (fm d.files) a none) b (some v)) none:=by
 have hf:bM d.files a=true:=by rw[lG hs,h];rfl
 obtain⟨hp,he,hv⟩:=vD hs h;have e:ii d.files a b=(iT (eR d.files (ax d.files a)) (eT d.files (ax d.files a) b),0):=by unfold ii;rw[if_pos hf,if_pos hb]
 rw[e];refine oP hs rfl (Cf (kQ hs _) _) ?_;have e2:eT d.files (ax d.files a) b={ d.files[ax d.files a] with name:=b }:=by unfold eT;rw[zE hp]
 rw[MD (kQ hs _),E7 hs hp,he,e2,<- hv]
theorem Out.seq {d:Dsk} {r1 r2:Dsk × Int} {X X1 X2:List Txt} {G1 G2:FM} {g g1 g2:Option FM} (h1:Out d r1 X1 G1 g1) (h2:r1.2=0->r1.1.down=false->fm r1.1.files=G1->srt r1.1.files->Out r1.1 r2 X2 G2 g2)
  (hG:∀ n,n ∉ X->G1 n=fm d.files n) (hx1:∀ n∈X1,n∈X) (hx2:∀ n∈X2,n∈X) (hg1:∀ q,g1=some q->g=some q) (hg2:∀ q,g2=some q->g=some q):Out d (if r1.2=0 then r2 else r1) X G2 g:=by
 obtain⟨k1,s1,o1⟩:=h1;rcases o1 with⟨e,hd,hf⟩|⟨q,hq,e,hd,hf⟩|⟨e,hd,hf⟩
 ·rw[if_pos e];obtain⟨k2,s2,o2⟩:=h2 e hd hf s1;refine⟨k1.trans k2,s2,?_⟩;rcases o2 with o2|⟨q,hq,o2⟩|⟨e2,hd2,hf2⟩
  ·exact .inl o2
  ·exact .inr (.inl ⟨q,hg2 q hq,o2⟩)
  ·refine .inr (.inr ⟨e2,hd2,fun n hn=>?_⟩)
   rw[hf2 n (fun hm=>hn (hx2 n hm)),hf]
   exact hG n hn
 ·rw[if_neg (by rw[e];decide)]
  exact⟨k1,s1,.inr (.inl ⟨q,hg1 q hq,e,hd,hf⟩)⟩
 ·rw[if_neg (by rw[e];decide)]
  exact⟨k1,s1,.inr (.inr ⟨e,hd,fun n hn=>hf n (fun hm=>hn (hx1 n hm))⟩)⟩
theorem Out.unl {d:Dsk} {r:Dsk × Int} {X:List Txt} {G g:FM} {n:Txt} {v:Txt × Int} (h:Out d r X G (some g)) (hn:g n=some v) (hg:∀ k,k ∉ X->g k=fm d.files k):Out d (cN n r) X G (some (up g n none)):=by
 obtain⟨k1,s1,o1⟩:=h;obtain⟨r1,e⟩:=r;simp only at k1 s1 o1;rcases o1 with⟨rfl,hd,hf⟩|⟨q,hq,rfl,hd,hf⟩|⟨rfl,hd,hf⟩
 ·have:cN n (r1,0)=(r1,0):=by unfold cN;rw[if_pos (by simp)]
  rw[this];exact⟨k1,s1,.inl ⟨rfl,hd,hf⟩⟩
 ·cases hq;have e1:dw n (r1,0)=am r1 (bO r1.files n):=bn _ _;have hdl:=vV s1 (n:=n) (v:=v) (by rw[hf];exact hn)
  unfold cN;rw[if_neg (by simp)]
  simp only[e1];generalize am r1 (bO r1.files n)=w at *;obtain⟨k2,s2,o2⟩:=hdl;rcases o2 with⟨e2,hd2,hf2⟩|⟨q,hq,_⟩|⟨e2,hd2,hf2⟩
  ·rw[if_pos e2];exact⟨k1.trans k2,s2,.inr (.inl ⟨_,rfl,rfl,hd2,by rw[hf2,hf]⟩)⟩
  ·cases hq
  ·rw[if_neg (by rw[e2];decide)]
   refine⟨k1.trans k2,s2,.inr (.inr ⟨e2,hd2,fun k hk=>?_⟩)⟩
   rw[hf2 k (by simp),hf]
   exact hg k hk
 ·have:cN n (r1,10)=(r1,10):=by unfold cN;rw[if_pos (by simp)]
  rw[this];exact⟨k1,s1,.inr (.inr ⟨rfl,hd,hf⟩)⟩
def tP (l:List Txt) (s:Dsk × Int):Dsk × Int:=l.foldl (fun s n=>dw n s) s
theorem nZ (n:Txt) (l:List Txt) (s:Dsk × Int):tP (n::l) s=tP l (dw n s):=rfl
theorem wA (l:List Txt) (s:Dsk × Int) (h:s.2≠0):tP l s=s:=by
 induction l with
 | nil=>rfl
 | cons n l ih=>rw[nZ,show dw n s=s from gv h _];exact ih
def jM (s:Sto) (k:Nat):List Txt:=(s.segs.take k).map (fun g=>fileN g.base)++(if 0<s.floor then[aN s.floor] else[])
theorem HK (l:List Seg) (q:Dsk × Int):Cj l q=tP (l.map fun g=>fileN g.base) q:=by
 unfold Cj tP;rw[List.foldl_map]
theorem Ad (s:Sto) (k:Nat) (q:Dsk × Int):zv s k q=tP (jM s k) q:=by
 unfold zv jM;simp only[];rw[HK];unfold tP;rw[List.foldl_append];generalize List.foldl (fun s n=>dw n s) q ((s.segs.take k).map fun g=>fileN g.base)=r
 by_cases c:0<s.floor
 ·rw[if_pos c];by_cases c2:r.2=0
  ·rw[if_pos ⟨c2,c⟩];rfl
  ·rw[if_neg (fun h=>c2 h.1)]
   show r=dw (aN s.floor) r;exact(gv c2 _).symm
 ·rw[if_neg (fun h=>c h.2),if_neg c];rfl
theorem kf {d:Dsk} (h:d.down=true) (r:List Fil × Int):am d r=(d,10):=by unfold am;rw[if_pos h]
theorem Out.dn {d:Dsk} (hs:srt d.files) (h:d.down=true) (X:List Txt) (G:FM) (g:Option FM):Out d (d,10) X G g:=⟨Dk.refl d,hs,.inr (.inr ⟨rfl,h,fun _ _=>rfl⟩)⟩
theorem Out.eq {d:Dsk} {r:Dsk × Int} {X:List Txt} {G G':FM} {g g':Option FM} (h:Out d r X G g) (h1:G=G') (h2:g=g'):Out d r X G' g':=h1 ▸ h2 ▸ h
theorem zu (n:Txt) (h:2<=n.length):n≠[110]:=fun e=>by rw[e] at h;simp at h
theorem gA {r:Dsk × Int} (h:r.2=0):r=(r.1,0):=by rw[<- h]
def manV (m:Man):Option (Txt × Int):=some (ct m,((ct m).length:Nat))
theorem n6 {d:Dsk} (hs:srt d.files) {m:Man} (hm:manB m=true) (hn:d.down=false->fm d.files [110]=none):Out d (bR m (d,0)) [[110]] (up (fm d.files) [109] (manV m)) (some (fm d.files)):=by
 have hp:bC m=(ct m,0):=by unfold bC;rw[if_pos hm]
 by_cases hd:d.down=true
 ·have e:bR m (d,0)=(d,10):=by
   have e1:∀ s:Dsk × Int,s=(d,0)∨s=(d,10)->bL [110] s=(d,10):=by
    rintro s (rfl|rfl)
    ·show am d _=_;exact kf hd _
    ·rfl
   have e2:(if(bZ d.files [110]).2=0 then dw [110] (d,0) else(d,0))=(d,0)∨(if(bZ d.files [110]).2=0 then dw [110] (d,0) else(d,0))=(d,10):=by
    split
    ·exact .inr (kf hd _)
    ·exact .inl rfl
   unfold bR;simp only[hp,if_true];rw[e1 _ e2];try rfl
  rw[e];exact .dn hs hd _ _ _
 ·have hn:=hn (by simpa using hd)
  have hr:(bZ d.files [110]).2≠0:=by rw[Bp hs,hn];decide
  have e:bR m (d,0)=if(am d (bh d.files [110])).2=0 then vH [110] [109] (fO [110] (cN [110] (fD [110] (ct m) (am d (bh d.files [110]))))) else am d (bh d.files [110]):=by
   have e1:bL [110] (d,0)=am d (bh d.files [110]):=bn _ _;unfold bR;simp only[hp,if_true,if_neg hr,e1];by_cases h:(am d (bh d.files [110])).2=0
   ·rw[if_neg (by simp[h]),if_pos h]
   ·rw[if_pos h,if_neg h]
  rw[e];refine Out.seq (mw hs (by decide) hn) (g1:=none) (g2:=some (fm d.files)) ?_ ?_ (by simp) (X2:=[[110]]) (by simp) (by simp) (by simp)
  ·intro h0 hd1 hf1 hs1;rw[gA h0];generalize (am d (bh d.files [110])).1=d1 at *;have ea:fD [110] (ct m) (d1,0)=am d1 (bH d1.files d1.cap [110] (ct m)):=bn _ _;rw[ea];have h1:=qO hs1 (ct m) (n:=[110]) (v:=([],0)) (by rw[hf1,cR])
   have h2:=h1.unl (n:=[110]) (v:=([],0)) (by rw[hf1,cR]) (fun _ _=>rfl)
   have h3:=Out.seq (X:=[[110]]) (g:=some (fm d.files)) h2 (r2:=fO [110] ((cN [110] (am d1 (bH d1.files d1.cap [110] (ct m)))).1,0)) (X2:=[]) (G2:=up (up (fm d1.files) [110] (some ([]++ct m,0))) [110] (manV m)) (g2:=none)
    (fun h0 hd2 hf2 hs2=>(by
     have:=oC hs2 (n:=[110]) (v:=([]++ct m,0)) (by rw[hf2,cR])
     rw[hf2] at this;exact this)) (fun n hn=>bm _ _ (by simpa using hn)) (by simp) (by simp)
    (fun q hq=>by cases hq;rw[hf1,iS,kG hn]) (by simp)
   have e3:fO [110] (cN [110] (am d1 (bH d1.files d1.cap [110] (ct m))))=if(cN [110] (am d1 (bH d1.files d1.cap [110] (ct m)))).2=0 then fO [110] ((cN [110] (am d1 (bH d1.files d1.cap [110] (ct m)))).1,0) else cN [110] (am d1 (bH d1.files d1.cap [110] (ct m))):=by
    split
    ·rename_i h;rw[<- gA h]
    ·rename_i h;exact gv h _
   rw[<- e3] at h3;generalize fO [110] (cN [110] (am d1 (bH d1.files d1.cap [110] (ct m))))=w at *;have h4:=Out.seq (X:=[[110]]) (g:=some (fm d.files)) h3 (r2:=am w.1 (ii w.1.files [110] [109])) (X2:=[]) (G2:=up (fm d.files) [109] (manV m)) (g2:=none)
    (fun h0 hd2 hf2 hs2=>(by
     have:=I6 hs2 (a:=[110]) (b:=[109]) (by decide) (v:=(ct m,((ct m).length:Nat))) (by rw[hf2,cR];rfl)
     refine this.eq ?_ rfl;rw[hf2,hf1,iS,iS,iS,kG hn];rfl)) (fun n hn=>by rw[iS];exact bm _ _ (by simpa using hn)) (by simp) (by simp) (by simp) (by simp)
   exact h4
  ·intro n hn;exact bm _ _ (by simpa using hn)
theorem vg {d:Dsk} (hs:srt d.files) {n:Txt} {m:Man} (hm:manB m=true) (hnm:dm n=true) (hn2:n≠[110]) (h1:d.down=false->fm d.files [110]=none) (h2:d.down=false->fm d.files n=none) :
  Out d (if(bL n (d,0)).2=0 then cN n (bR m (bL n (d,0))) else bL n (d,0)) [n,[110]] (up (up (fm d.files) n (some ([],0))) [109] (manV m)) (some (fm d.files)):=by
 have e1:bL n (d,0)=am d (bh d.files n):=bn _ _;rw[e1];by_cases hd:d.down=true
 ·rw[kf hd,if_neg (by simp)]
  exact .dn hs hd _ _ _
 ·have hd:d.down=false:=by simpa using hd
  refine Out.seq (mw hs hnm (h2 hd)) (g1:=none) (g2:=some (fm d.files)) ?_ ?_ (by simp) (X2:=[[110]]) (by simp) (by simp) (by simp)
  ·intro h0 hd1 hf1 hs1;rw[gA h0];generalize (am d (bh d.files n)).1=d1 at *;have h3:=n6 hs1 hm (fun _=>by rw[hf1,bm _ _ (fun e=>hn2 e.symm)];exact h1 hd)
   have h4:=h3.unl (n:=n) (v:=([],0)) (by rw[hf1,cR]) (fun _ _=>rfl)
   rw[hf1,iS,kG (h2 hd)] at h4;exact h4
  ·intro k hk;exact bm _ _ (fun e=>hk (by simp[e]))
theorem IH {d:Dsk} (hs:srt d.files) {n x:Txt} {m:Man} (hm:manB m=true) (hnm:dm n=true) (hn2:n≠[110]) (h1:d.down=false->fm d.files [110]=none) (h2:d.down=false->fm d.files n=none) :
  Out d (nz d n x m) [n,[110]] (up (up (fm d.files) n (some (x,(x.length:Nat)))) [109] (manV m)) (some (fm d.files)):=by
 have e1:bL n (d,0)=am d (bh d.files n):=bn _ _;unfold nz;simp only[e1];by_cases hd:d.down=true
 ·rw[kf hd];have e2:fO n (d,10)=(d,10):=rfl;simp only[e2];exact .dn hs hd _ _ _
 ·have hd:d.down=false:=by simpa using hd
  have k1:=Out.seq (X:=[n]) (g:=some (fm d.files)) (mw hs hnm (h2 hd)) (r2:=cN n (fD n x (am d (bh d.files n)))) (G2:=up (fm d.files) n (some (x,0))) (g2:=some (fm d.files)) (X2:=[]) (by
   intro h0 hd1 hf1 hs1;rw[gA h0];generalize (am d (bh d.files n)).1=d1 at *;have ea:fD n x (d1,0)=am d1 (bH d1.files d1.cap n x):=bn _ _;rw[ea];have h3:=(qO hs1 x (n:=n) (v:=([],0)) (by rw[hf1,cR])).unl (n:=n) (v:=([],0)) (by rw[hf1,cR]) (fun _ _=>rfl)
   rw[hf1,iS,iS,kG (h2 hd)] at h3;exact h3) (fun k hk=>bm _ _ (by simpa using hk)) (by simp) (by simp) (by simp) (by simp)
  generalize (if(am d (bh d.files n)).2=0 then cN n (fD n x (am d (bh d.files n))) else am d (bh d.files n))=b at *
  have k2:=Out.seq (X:=[n]) (g:=some (fm d.files)) k1 (r2:=am b.1 (cq b.1.files n)) (G2:=up (fm d.files) n (some (x,(x.length:Nat)))) (g2:=none) (X2:=[]) (by
   intro h0 hd1 hf1 hs1;have:=oC hs1 (n:=n) (v:=(x,0)) (by rw[hf1,cR])
   rw[hf1,iS] at this;exact this) (fun k hk=>bm _ _ (by simpa using hk)) (by simp) (by simp) (by simp) (by simp)
  have e3:(if b.2=0 then am b.1 (cq b.1.files n) else b)=fO n b:=rfl
  rw[e3] at k2;generalize fO n b=c at *;refine Out.seq (X:=[n,[110]]) k2 (g:=some (fm d.files)) (g2:=some (fm d.files)) (X2:=[[110]]) ?_ ?_ (by simp) (by simp) (by simp) (by simp)
  ·intro h0 hd1 hf1 hs1;rw[gA h0];have h3:=n6 hs1 hm (fun _=>by rw[hf1,bm _ _ (fun e=>hn2 e.symm)];exact h1 hd)
   have h4:=h3.unl (n:=n) (v:=(x,((x.length:Nat):Int))) (by rw[hf1,cR]) (fun _ _=>rfl)
   rw[hf1,iS,kG (h2 hd)] at h4;exact h4
  ·intro k hk;exact bm _ _ (fun e=>hk (by simp[e]))
def zz (l:List Txt) (F:FM):FM:=fun k=>if k∈l then none else F k
theorem vU:∀ (l:List Txt) (d:Dsk),srt d.files->l.Nodup->d.down=false->(∀ n∈l,fm d.files n≠none)->Out d (tP l (d,0)) l (zz l (fm d.files)) none
 | [],d,hs,_,hd,_=>⟨Dk.refl d,hs,.inl ⟨rfl,hd,by funext k;simp[zz,tP]⟩⟩
 | n::l,d,hs,hn,hd,h=>by
  have hn:=List.nodup_cons.1 hn;obtain⟨v,hv⟩:=Option.ne_none_iff_exists'.1 (h n (by simp))
  have e1:dw n (d,0)=am d (bO d.files n):=bn _ _;rw[nZ,e1];have h1:=vV hs hv;have e2:tP l (am d (bO d.files n))=if(am d (bO d.files n)).2=0 then tP l ((am d (bO d.files n)).1,0) else am d (bO d.files n):=by
   split
   ·rename_i h0;rw[<- gA h0]
   ·rename_i h0;exact wA l _ h0
  rw[e2];refine Out.seq h1 (X2:=l) (g2:=none) ?_ ?_ (by simp) (fun k hk=>by simp[hk]) (by simp) (by simp)
  ·intro h0 hd1 hf1 hs1;have h2:=vU l (am d (bO d.files n)).1 hs1 hn.2 hd1 (fun k hk=>by
    rw[hf1,bm _ _ (fun e=>hn.1 (by rw[<- e];exact hk))];exact h k (by simp[hk]))
   rw[hf1] at h2;refine h2.eq ?_ rfl;funext k
   unfold zz;by_cases c:k=n
   ·simp[c,hn.1,cR]
   ·by_cases c2:k∈l
    ·rw[if_pos c2,if_pos (List.mem_cons_of_mem _ c2)]
    ·rw[if_neg c2,if_neg (by simp[c,c2]),bm _ _ c]
  ·intro k hk;exact bm _ _ (fun e=>hk (by simp[e]))
structure Act where
 kind:Int
 n:Int
 data:List UInt8
 deriving DecidableEq
def Act.enc (e:Act):List D:=[.i .i64 e.kind,.i .i64 e.n,.s e.data]
def Act.ok (e:Act):Prop:=(-9223372036854775808<=e.kind∧e.kind<9223372036854775808)∧(-9223372036854775808<=e.n∧e.n<9223372036854775808)∧e.data.length<=9223372036854775807
def Act.ty:List Ty:=[.i .i64,.i .i64,.s]
def QL (d:Dsk) (n:Int):Dsk:={ d with armed:=decide (0<=n),left:=if 0<n then n else 0 }
def Qa (d:Dsk) (n:Int):Dsk:={ d with cap:=if 0<n then n else 0 }
variable {f:Int} {S:Txt} {l0:List Pr} {s:Sto} {M:List SR} {g:Seg} {l:List Rec}
theorem dx (n:Int):(aN n).length=14:=by simp[aN,fc]
theorem bU (n:Int):(fileN n).length=14:=by simp[fileN,fc]
theorem cT (a b:Int):aN a≠fileN b:=fun h=>by
 have:(aN a)[0]?=(fileN b)[0]?:=by rw[h]
 simp[aN,fileN,fc] at this
theorem jE (n:Txt) (h:2<=n.length):n≠[109]:=fun e=>by rw[e] at h;simp at h
theorem Ag {c:UInt8} {a b:Nat} (h:fc c a=fc c b):fc 115 a=fc 115 b:=by
 unfold fc at h ⊢;rw[(List.cons.inj h).2]
theorem o8 {a b:Int} (ha:0<=a∧a<=1099511627776) (hb:0<=b∧b<=1099511627776) (h:aN a=aN b):a=b:=dF ha hb (Ag h)
theorem Ar (n:Int):dm (fileN n)=true:=by
 have:=bU n;have h2:fileN n≠[]:=fun e=>by rw[e] at this;simp at this
 simp[dm,h2,this]
theorem Ga (n:Int):dm (aN n)=true:=by
 have:=dx n;have h2:aN n≠[]:=fun e=>by rw[e] at this;simp at this
 simp[dm,h2,this]
def rel (f:Int) (s:Sto) (n:Txt):Prop:=n=[109]∨(∃ g∈s.segs,n=fileN g.base)∨(0<f∧n=aN f)
theorem my (f:Int) (s:Sto):¬ rel f s [110]:=by
 rintro(h|⟨g,_,h⟩|⟨_,h⟩)
 ·simp at h
 ·exact zu _ (by rw[bU];decide) h.symm
 ·exact zu _ (by rw[dx];decide) h.symm
def Snp (f:Int) (S:Txt) (l0:List Pr) (s:Sto):Prop :=
 (f=0∧S=[]∧l0=[]∧s.size=0∧s.sum=0)∨(0<f∧fm s.disk.files (aN f)=some (S,((S.length:Nat):Int))∧bA S=some l0∧s.size=((S.length:Nat):Int)∧s.sum=cw S)
structure W (f:Int) (S:Txt) (l0:List Pr) (s:Sto) (M:List SR) (g:Seg) (l:List Rec):Prop where
 inv:Inv f s M g l
 snp:Snp f S l0 s
 man:fm s.disk.files [109]=manV s.man
 right:manB s.man=true
 full:∀ p∈M,fm s.disk.files (fileN p.1.base)=some (rowS p.2,(((rowS p.2).length:Nat):Int))
 last:∃ q:Nat,fm s.disk.files (fileN g.base)=some (rowS l,((q:Nat):Int))∧(rowS (l.take (s.sure-g.base).toNat)).length<=q∧q<=(rowS l).length
 lo:g.base<=s.sure
 only:s.disk.down=false->∀ n,fm s.disk.files n≠none->rel f s n
theorem W.mem (h:W f S l0 s M g l):∀ p∈M++[(g,l)],p.1∈s.segs:=by
 intro p hp;rw[h.inv.segs];rcases zX.1 hp with hp|hp
 ·exact List.mem_append_left _ (List.mem_map_of_mem hp)
 ·rw[zV.1 hp];simp
theorem W.keep (h:W f S l0 s M g l) (hs:srt s.disk.files) {d:Dsk} (hs':srt d.files) (hk:∀ n,rel f s n->fm d.files n=fm s.disk.files n)
  (hd:d.down=true∨(fm d.files=fm s.disk.files∧s.disk.down=false)):W f S l0 { s with disk:=d } M g l:=by
 have hm:=h.mem;refine⟨h.inv.disk d fun p hp hh=>?_,?_,?_,h.right,fun p hp=>?_,?_,h.lo,fun hdn n hn=>?_⟩
 ·rw[kT hs] at hh;rw[kT hs',hk _ (.inr (.inl ⟨_,hm p hp,rfl⟩))];exact hh
 ·rcases h.snp with h1|⟨h1,h2,h3⟩
  ·exact .inl h1
  ·exact .inr ⟨h1,by show fm d.files _=_;rw[hk _ (.inr (.inr ⟨h1,rfl⟩))];exact h2,h3⟩
 ·show fm d.files _=_;rw[hk _ (.inl rfl)];exact h.man
 ·show fm d.files _=_;rw[hk _ (.inr (.inl ⟨_,hm p (List.mem_append_left _ hp),rfl⟩))];exact h.full p hp
 ·obtain⟨q,h1,h2⟩:=h.last;exact⟨q,by show fm d.files _=_;rw[hk _ (.inr (.inl ⟨_,hm (g,l) (by simp),rfl⟩))];exact h1,h2⟩
 ·rcases hd with hd|⟨h1,h2⟩
  ·rw[show d.down=false from hdn] at hd;cases hd
  ·exact h.only h2 n (by rw[<- h1];exact hn)
theorem W.fail (h:W f S l0 s M g l) (hs:srt s.disk.files) {r:Dsk × Int} {X:List Txt} {G:FM} (hO:Out s.disk r X G (some (fm s.disk.files))) (he:r.2≠0) (hX:∀ n∈X,¬ rel f s n) :
  W f S l0 { s with disk:=r.1 } M g l∧((r.2=9∧fm r.1.files=fm s.disk.files∧r.1.down=false)∨(r.2=10∧r.1.down=true)):=by
 obtain⟨k,s1,o⟩:=hO;rcases o with⟨e,_⟩|⟨q,hq,e,hd,hf⟩|⟨e,hd,hf⟩
 ·exact absurd e he
 ·cases hq;have h0:s.disk.down=false:=by
   cases hx:s.disk.down with
   | false=>rfl
   | true=>rw[k.down hx,hx] at hd;cases hd
  exact⟨h.keep hs s1 (fun n _=>by rw[hf]) (.inr ⟨hf,h0⟩),.inl ⟨e,hf,hd⟩⟩
 ·exact⟨h.keep hs s1 (fun n hn=>hf n (fun hx=>hX n hx hn)) (.inl hd),.inr ⟨e,hd⟩⟩
theorem rN {f:Int} {M:List SR} {g:Seg} (h:chainM f M g.base):∀ p∈M,p.1.base<g.base:=fun p hp=>by
 have:=(dy _ _ _ h).2 p hp;omega
theorem ot:∀ (l:List Int) (a:Int),jK a l=true↔(l.Pairwise (· < ·)∧∀ n∈l,a<n∧n<=1099511627776)
 | [],a=>by simp[jK]
 | x::r,a=>by
  have ih:=ot r x;simp only[jK,Bool.and_eq_true,decide_eq_true_eq,ih,List.pairwise_cons,List.mem_cons];constructor
  ·rintro⟨h1,h2,h3⟩;exact⟨⟨fun b hb=>(h3 b hb).1,h2⟩,fun n hn=>by
    rcases hn with rfl|hn
    ·exact h1
    ·have:=h3 n hn;exact⟨by omega,this.2⟩⟩
  ·rintro⟨⟨h1,h2⟩,h3⟩;exact⟨h3 x (.inl rfl),h2,fun n hn=>⟨h1 n hn,(h3 n (.inr hn)).2⟩⟩
theorem vJ {m:Man} (hv:1<=m.ver∧m.ver<=1099511627776) (hl:1<=m.segs.length∧m.segs.length<=64) (hi:jK (-1) m.segs=true) (hz:(m.segs.head?=some 0∧m.size=0∧m.sum=0)∨(m.segs.head?≠some 0∧0<m.size∧m.size<=65536)):manB m=true:=by
 unfold manB;rw[hi,Bool.true_and,Bool.and_eq_true];refine⟨by simpa using⟨hv.1,hv.2,hl.1,hl.2⟩,?_⟩
 rcases hz with⟨h1,h2,h3⟩|⟨h1,h2,h3⟩
 ·rw[if_pos h1];simp[h2,h3]
 ·rw[if_neg h1];simp[h2,h3]
theorem GI {m:Man} (h:manB m=true):(m.segs.head?=some 0∧m.size=0∧m.sum=0)∨(m.segs.head?≠some 0∧0<m.size∧m.size<=65536):=by
 unfold manB at h;rw[Bool.and_eq_true,Bool.and_eq_true] at h;have h2:=h.2.2;by_cases c:m.segs.head?=some 0
 ·rw[if_pos c] at h2;exact .inl ⟨c,by simpa using h2⟩
 ·rw[if_neg c] at h2;exact .inr ⟨c,by simpa using h2⟩
variable {k u:Nat} {f:Int} {S:Txt} {l0:List Pr} {s:Sto} {M:List SR} {g:Seg} {l:List Rec}
theorem W.file_ne (ho:okS k u s) (h:W f S l0 s M g l):∀ p∈M,fileN p.1.base≠fileN g.base:=fun p hp e=>by
 have h1:=(ho.seg _ (h.mem p (List.mem_append_left _ hp))).1;have h2:=(ho.seg _ (h.mem (g,l) (by simp))).1
 have:p.1.base=g.base:=dF h1 h2 e;have:=rN h.inv.chain p hp;omega
theorem Dk.up_of {d d':Dsk} (h:Dk d d') (hd:d'.down=false):d.down=false:=by
 cases hx:d.down with
 | false=>rfl
 | true=>rw[h.down hx,hx] at hd;cases hd
theorem W.change (ho:okS k u s) (h:W f S l0 s M g l) {s':Sto} {g':Seg} {l':List Rec} {x:Txt} {q:Nat} (hi:Inv f s' M g' l') (hb:g'.base=g.base) (hf:fm s'.disk.files=up (fm s.disk.files) (fileN g.base) (some (x,((q:Nat):Int)))) (hd:s.disk.down=false)
  (hm:s'.man=s.man) (hz:s'.size=s.size∧s'.sum=s.sum) (hx:x=rowS l') (h1:(rowS (l'.take (s'.sure-g.base).toNat)).length<=q∧q<=(rowS l').length) (hl:g.base<=s'.sure):W f S l0 s' M g' l':=by
 have hne:=h.file_ne ho;have hsg:∀ n,rel f s n->rel f s' n:=by
  rintro n (hn|⟨a,ha,hn⟩|hn)
  ·exact .inl hn
  ·refine .inr (.inl ?_);rw[h.inv.segs] at ha;rcases zX.1 ha with ha|ha
   ·exact⟨a,by rw[hi.segs];exact List.mem_append_left _ ha,hn⟩
   ·rw[zV.1 ha] at hn;exact⟨g',by rw[hi.segs];simp,by rw[hb];exact hn⟩
  ·exact .inr (.inr hn)
 refine⟨hi,?_,?_,by rw[hm];exact h.right,fun p hp=>?_,⟨q,?_,by rw[hb];exact h1⟩,by rw[hb];exact hl,fun _ n hn=>?_⟩
 ·rcases h.snp with h2|⟨h2,h3,h4⟩
  ·exact .inl ⟨h2.1,h2.2.1,h2.2.2.1,by rw[hz.1];exact h2.2.2.2.1,by rw[hz.2];exact h2.2.2.2.2⟩
  ·exact .inr ⟨h2,by rw[hf,bm _ _ (cT _ _)];exact h3,h4.1,by rw[hz.1];exact h4.2.1,by rw[hz.2];exact h4.2.2⟩
 ·rw[hf,hm,bm _ _ (jE _ (by rw[bU];decide)).symm];exact h.man
 ·rw[hf,bm _ _ (hne p hp)];exact h.full p hp
 ·rw[hf,hb,cR,hx]
 ·by_cases c:n=fileN g.base
  ·exact hsg n (.inr (.inl ⟨g,h.mem (g,l) (by simp),c⟩))
  ·rw[hf,bm _ _ c] at hn;exact hsg n (h.only hd n hn)
theorem W.sync (ho:okS k u s) (h:W f S l0 s M g l):W f S l0 (aT s).1 M g l∧(((aT s).2=0∧(aT s).1.sure=s.next∧(aT s).1.disk.down=false)∨((aT s).2=10∧(aT s).1.disk.down=true∧(aT s).1.sure=s.sure))∧(aT s).1.disk.cap=s.disk.cap:=by
 have hi:=xR ho h.inv ho.next.1;obtain⟨q,h1,h2,h3⟩:=h.last;have hO:=oC ho.dsk.srt h1;have hl:=h.inv.last;have es:aT s=({ s with disk:=(am s.disk (cq s.disk.files (fileN g.base))).1,sure:=if(am s.disk (cq s.disk.files (fileN g.base))).2=0 then s.next else s.sure },(am s.disk (cq s.disk.files (fileN g.base))).2):=by unfold aT;rw[hl]
 rw[es] at hi ⊢;generalize am s.disk (cq s.disk.files (fileN g.base))=r at *;have hnx:=h.inv.next;have hcap:=hO.1.cap;rcases hO.2.2 with⟨e,hd,hf⟩|⟨_,hc,_⟩|⟨e,hd,hf⟩
 ·have e1:(if r.2=0 then s.next else s.sure)=s.next:=if_pos e
  rw[e1] at hi ⊢;refine⟨h.change ho hi rfl hf (hO.1.up_of hd) rfl ⟨rfl,rfl⟩ rfl ⟨?_,Nat.le_refl _⟩ ?_,.inl ⟨e,rfl,hd⟩,hcap⟩
  ·simp only[];rw[zL (by omega)];exact Nat.le_refl _
  ·simp only[];omega
 ·cases hc
 ·have e1:(if r.2=0 then s.next else s.sure)=s.sure:=if_neg (by rw[e];decide)
  rw[e1];exact⟨h.keep ho.dsk.srt hO.2.1 (fun n _=>hf n (by simp)) (.inl hd),.inr ⟨e,hd,rfl⟩,hcap⟩
theorem EA (h:Inv f s M g l) (a b:Int):((s.segs.dropLast++[⟨s.last.base,a,b⟩]:List Seg)).map Seg.base=s.segs.map Seg.base:=by
 rw[h.last,h.segs];simp
theorem W.put (ho:okS k u s) (h:W f S l0 s M g l) (r:Rec) (hr:whyF r=0) (ha:r.at_=s.next) :
  ((fN s (dS r).1).1.disk.cap=s.disk.cap∧(fN s (dS r).1).1.sure=s.sure)∧((W f S l0 (fN s (dS r).1).1 M g l∧(fN s (dS r).1).1.next=s.next∧(fN s (dS r).1).1.segs=s.segs∧(fN s (dS r).1).1.ver=s.ver∧((((fN s (dS r).1).2=9∧(fN s (dS r).1).1.disk.down=false)∨((fN s (dS r).1).2=10∧(fN s (dS r).1).1.disk.down=true)))) ∨
  ((fN s (dS r).1).2=0∧(fN s (dS r).1).1.disk.down=false∧W f S l0 (fN s (dS r).1).1 M ⟨g.base,g.n+1,g.size+(aY (bE r)).length⟩ (l++[r]))):=by
 have hp:=HN ho h.inv r hr ha;have hl:=h.inv.last;have e1:(dS r).1=aY (bE r):=by unfold dS;rw[if_pos hr]
 obtain⟨q,h1,h2,h3⟩:=h.last;have hO:=qO ho.dsk.srt (aY (bE r)) h1;have hsg:=EA h.inv (s.last.n+1) (s.last.size+((aY (bE r)).length:Nat));have hnx:=h.inv.next;have hsu:=h.inv.sure;have es:fN s (dS r).1=if(am s.disk (bH s.disk.files s.disk.cap (fileN g.base) (aY (bE r)))).2≠0 then({ s with disk:=(am s.disk (bH s.disk.files s.disk.cap (fileN g.base) (aY (bE r)))).1 },(am s.disk (bH s.disk.files s.disk.cap (fileN g.base) (aY (bE r)))).2) else({ y6 s (aY (bE r)).length with disk:=(am s.disk (bH s.disk.files s.disk.cap (fileN g.base) (aY (bE r)))).1 },0):=by
  unfold fN;rw[hl,e1]
 rw[es] at hp ⊢;have hcap:=hO.1.cap;by_cases c:(am s.disk (bH s.disk.files s.disk.cap (fileN g.base) (aY (bE r)))).2=0
 ·rw[if_neg (by simp[c])] at hp ⊢
  refine⟨⟨hcap,rfl⟩,.inr ?_⟩;rcases hp with⟨hp,_⟩|⟨_,hp⟩
  ·exact absurd rfl hp
  ·rcases hO.2.2 with⟨e,hd,hf⟩|⟨_,_,e,_⟩|⟨e,_⟩
   ·refine⟨rfl,hd,h.change ho hp rfl hf (hO.1.up_of hd) ?_ ⟨rfl,rfl⟩ (mB _ _).symm ⟨?_,?_⟩ h.lo⟩
    ·show(⟨s.ver,(s.segs.dropLast++[_]).map Seg.base,s.size,s.sum⟩:Man)=s.man;rw[hsg];rfl
    ·show(rowS ((l++[r]).take (s.sure-g.base).toNat)).length<=q;rw[List.take_append_of_le_length (by omega)];exact h2
    ·rw[mB,zA];omega
   ·rw[e] at c;cases c
   ·rw[e] at c;cases c
 ·rw[if_pos c] at hp ⊢;refine⟨⟨hcap,rfl⟩,.inl ?_⟩;have:=h.fail ho.dsk.srt hO c (by simp)
  refine⟨this.1,rfl,rfl,rfl,?_⟩;rcases this.2 with⟨a,_,b⟩|h
  ·exact .inl ⟨a,b⟩
  ·exact .inr h
variable {k u:Nat} {f:Int} {S:Txt} {l0:List Pr} {s:Sto} {M:List SR} {g:Seg} {l:List Rec}
theorem W.man_inc (h:W f S l0 s M g l):(s.segs.map Seg.base).Pairwise (· < ·)∧(∀ n∈s.segs.map Seg.base,-1<n∧n<=1099511627776) :=
 (ot _ _).1 (lP h.right).2.2.1
theorem W.head (h:W f S l0 s M g l):(s.segs.map Seg.base).head?=some f:=by
 rw[h.inv.segs];have hc:=h.inv.chain;cases M with
 | nil=>simp[chainM] at hc ⊢;omega
 | cons p r=>simp[chainM] at hc ⊢;omega
theorem FG (h:Inv f s M g l) (hl:l≠[]):∀ a∈s.segs,a.base<s.next:=by
 intro a ha;have hn:=h.next;have hp:0<l.length:=List.length_pos_iff.2 hl;rw[h.segs] at ha;rcases zX.1 ha with ha|ha
 ·obtain⟨p,hp2,rfl⟩:=List.mem_map.1 ha;have:=rN h.chain p hp2;omega
 ·rw[zV.1 ha];omega
theorem A4 (h:W f S l0 s M g l) (hl:l≠[]) (hn:s.next<=1099511627776) (hv:s.ver+1<=1099511627776) (hlen:s.segs.length<64):manB (jB s).man=true:=by
 have hm:=lP h.right;have hi:=h.man_inc;have hlt:=FG h.inv hl;have hg0:=h.inv.next;have e:(jB s).man.segs=s.segs.map Seg.base++[s.next]:=by show(s.segs++[_]).map Seg.base=_;simp
 have hv1:1<=s.ver:=hm.1.1;have h0:0<=s.next:=by have:=h.inv.sure;omega
 refine vJ ⟨by show 1<=s.ver+1;omega,hv⟩ ⟨by rw[e];simp,by rw[e];simp;omega⟩ ?_ ?_
 ·rw[e,ot,List.pairwise_append];refine⟨⟨hi.1,by simp,fun a ha b hb=>?_⟩,fun n hx=>?_⟩
  ·obtain⟨c,hc,rfl⟩:=List.mem_map.1 ha;rw[zV.1 hb];exact hlt c hc
  ·rcases zX.1 hx with hx|hx
   ·exact hi.2 n hx
   ·rw[zV.1 hx];omega
 ·have hz:=GI h.right;have eh:(jB s).man.segs.head?=s.man.segs.head?:=by
   rw[e];show _=(s.segs.map Seg.base).head?;rw[List.head?_append,h.head];rfl
  rw[eh];exact hz
theorem W.roll (ho:okS k u s) (h:W f S l0 s M g l) (hl:l≠[]) (hv:u<1000000000000) :
  (co s).1.disk.cap=s.disk.cap∧((W f S l0 (co s).1 M g l∧(co s).1.segs=s.segs∧(((co s).2=9∧(co s).1.disk.down=s.disk.down)∨((co s).2=10∧(co s).1.disk.down=true))) ∨
  ((co s).2=0∧(co s).1.disk.down=false∧(co s).1.sure=s.next∧W f S l0 (co s).1 (M++[(g,l)]) ⟨s.next,0,0⟩ [])):=by
 have hri:=Fk ho h.inv hl;have hsy:=h.sync ho;have hos:=j5 ho;unfold co at hri ⊢;by_cases c1:64<=s.segs.length
 ·rw[if_pos c1];exact⟨rfl,.inl ⟨h,rfl,.inl ⟨rfl,rfl⟩⟩⟩
 ·rw[if_neg c1] at hri ⊢;by_cases c2:(aT s).2=0
  ·rw[if_neg (by simp[c2])] at hri ⊢
   have hsg:(aT s).1.segs=s.segs:=rfl;have hn:(aT s).1.next=s.next:=rfl;obtain⟨hw,hst,hcap⟩:=hsy;have hst2:(aT s).1.sure=s.next∧(aT s).1.disk.down=false:=by
    rcases hst with h1|h1
    ·exact h1.2
    ·rw[h1.1] at c2;cases c2
   have hdn:s.disk.down=false:=by
    have hO:=oC ho.dsk.srt h.last.choose_spec.1;have hl2:=h.inv.last;have e2:(aT s).1.disk=(am s.disk (cq s.disk.files (fileN g.base))).1:=by unfold aT;rw[hl2]
    exact hO.1.up_of (by rw[<- e2];exact hst2.2)
   rw[<- hsg] at c1;rw[<- hn] at hst2 hri ⊢;generalize (aT s).1=t at *;have hnx:=hos.next;have hvt:=hos.ver;have hlt:=FG hw.inv hl;have hrt:=A4 hw hl hnx.2 (by omega) (by omega)
   have hnone:t.disk.down=false->fm t.disk.files (fileN t.next)=none:=fun hd=>by
    cases hx:fm t.disk.files (fileN t.next) with
    | none=>rfl
    | some v =>
     rcases hw.only hd (fileN t.next) (by rw[hx];simp) with e|⟨a,ha,e⟩|⟨_,e⟩
     ·exact absurd e (jE _ (by rw[bU];decide))
     ·have:=dF (by omega) (hos.seg a ha).1 e
      have:=hlt a ha;omega
     ·exact absurd e.symm (cT _ _)
   have hnr:∀ n∈[fileN t.next,[110]],¬ rel f t n:=by
    intro n hx;rcases List.mem_cons.1 hx with rfl|hx
    ·rintro(e|⟨a,ha,e⟩|⟨_,e⟩)
     ·exact absurd e (jE _ (by rw[bU];decide))
     ·have:=dF (by omega) (hos.seg a ha).1 e
      have:=hlt a ha;omega
     ·exact absurd e.symm (cT _ _)
    ·rw[zV.1 hx];exact my f t
   have h110:t.disk.down=false->fm t.disk.files [110]=none:=fun hd=>by
    cases hx:fm t.disk.files [110] with
    | none=>rfl
    | some v=>exact absurd (hw.only hd [110] (by rw[hx];simp)) (my f t)
   have hO:Out t.disk (dW t) [fileN t.next,[110]] _ _:=vg hos.dsk.srt hrt (Ar _) (zu _ (by rw[bU];decide)) h110 hnone
   have hcap2:=hO.1.cap;by_cases c3:(dW t).2=0
   ·rw[if_pos c3] at hri ⊢;rcases hri with⟨hx,_⟩|⟨_,hri⟩
    ·exact absurd rfl hx
    rcases hO.2.2 with⟨e,hd,hf⟩|⟨_,_,e,_⟩|⟨e,_⟩
    ·refine⟨hcap2.trans hcap,.inr ⟨rfl,hd,hst2.1,hri,?_,?_,hrt,fun p hp=>?_,⟨0,?_,by simp[rowS],by simp⟩,?_,fun _ n hx=>?_⟩⟩
     ·rcases hw.snp with h2|⟨h2,h3,h4⟩
      ·exact .inl h2
      ·exact .inr ⟨h2,by show fm (dW t).1.files _=_;rw[hf,bm _ _ (jE _ (by rw[dx];decide)),bm _ _ (cT _ _)];exact h3,h4⟩
     ·show fm (dW t).1.files _=_;rw[hf,cR];rfl
     ·show fm (dW t).1.files _=_;have hpm:p.1∈t.segs:=hw.mem p hp;have hne:fileN p.1.base≠fileN t.next:=fun e=>by
       have:p.1.base=t.next:=dF (hos.seg _ hpm).1 (by omega) e
       have:=hlt _ hpm;omega
      rw[hf,bm _ _ (jE _ (by rw[bU];decide)),bm _ _ hne]
      rcases zX.1 hp with hp|hp
      ·exact hw.full p hp
      ·rw[zV.1 hp];obtain⟨q,h1,h2,h3⟩:=hw.last;have hnn:=hw.inv.next;rw[zL (by omega)] at h2
       rw[h1,show q=(rowS l).length by omega]
     ·show fm (dW t).1.files _=_;rw[hf,bm _ _ (jE _ (by rw[bU];decide)),cR];rfl
     ·show t.next<=t.sure;omega
     ·have hx2:fm (dW t).1.files n≠none:=hx;rw[hf] at hx2;by_cases a1:n=[109]
      ·exact .inl a1
      ·rw[bm _ _ a1] at hx2;by_cases a2:n=fileN t.next
       ·exact .inr (.inl ⟨⟨t.next,0,0⟩,by show _∈t.segs++[_];simp,a2⟩)
       ·rw[bm _ _ a2] at hx2;rcases hw.only hst2.2 n hx2 with e|⟨a,ha,e⟩|e
        ·exact .inl e
        ·exact .inr (.inl ⟨a,by show a∈t.segs++[_];simp[ha],e⟩)
        ·exact .inr (.inr e)
    ·rw[e] at c3;cases c3
    ·rw[e] at c3;cases c3
   ·rw[if_neg c3];have:=hw.fail hos.dsk.srt hO c3 hnr;refine⟨hcap2.trans hcap,.inl ⟨this.1,hsg,?_⟩⟩;rcases this.2 with⟨a,_,b⟩|hh
    ·exact .inl ⟨a,b.trans hdn.symm⟩
    ·exact .inr hh
  ·rw[if_pos c2];refine⟨hsy.2.2,.inl ⟨hsy.1,rfl,?_⟩⟩;rcases hsy.2.1 with h1|h1
   ·exact absurd h1.1 c2
   ·exact .inr ⟨h1.1,h1.2.1⟩
def WR (f:Int) (S:Txt) (l0:List Pr) (s:Sto) (R:List Rec):Prop:=∃ M g l,W f S l0 s M g l∧aX (M++[(g,l)])=R
theorem WR.next {R:List Rec} (h:WR f S l0 s R):s.next=f+R.length:=by
 obtain⟨M,g,l,h,rfl⟩:=h;have:=iw _ _ _ h.inv.chain;have hn:=h.inv.next;rw[cJ,eJ,zA];simp only[];omega
theorem WR.sure {R:List Rec} (h:WR f S l0 s R):f<=s.sure∧s.sure<=s.next:=by
 obtain⟨M,g,l,h,rfl⟩:=h;have:=(dy _ _ _ h.inv.chain).1;have:=h.lo;have:=h.inv.sure;omega
theorem WR.floor {R:List Rec} (h:WR f S l0 s R):s.floor=f:=by
 obtain⟨M,g,l,h,rfl⟩:=h;have h1:=h.head;unfold Sto.floor;cases hs:s.segs with
 | nil=>rw[hs] at h1;cases h1
 | cons a r=>rw[hs] at h1;simpa using h1
theorem WR.app {R:List Rec} (ho:okS k u s) (h:WR f S l0 s R) {seg:Int} (hseg:1<=seg) (hv:u<1000000000000) (r:Rec) :
  s.sure<=(eg s seg r).1.sure∧(eg s seg r).1.disk.cap=s.disk.cap∧(((eg s seg r).2=0∧r.at_=s.next∧whyF r=0∧s.next<1099511627776∧(eg s seg r).1.disk.down=false∧WR f S l0 (eg s seg r).1 (R++[r])) ∨
   (WR f S l0 (eg s seg r).1 R∧(((eg s seg r).2=1∧(eg s seg r).1=s∧(whyF r≠0∨r.at_≠s.next))∨((eg s seg r).2=13∧(eg s seg r).1=s∧1099511627776<=s.next)∨(eg s seg r).2=9∨((eg s seg r).2=10∧(eg s seg r).1.disk.down=true)))):=by
 have h0:=h;obtain⟨M,g,l,h,rfl⟩:=h;have hlast:=h.inv.last;unfold eg;by_cases c1:(dS r).2≠0∨r.at_≠s.next
 ·rw[if_pos c1];refine⟨Int.le_refl _,rfl,.inr ⟨h0,.inl ⟨rfl,rfl,?_⟩⟩⟩;rcases c1 with c1|c1
  ·refine .inl fun hw=>c1 ?_
   unfold dS;rw[if_pos hw]
  ·exact .inr c1
 ·rw[if_neg c1];simp only[not_or,Decidable.not_not] at c1;obtain⟨c1,ca⟩:=c1;have hr:whyF r=0:=by
   unfold dS at c1;split at c1
   ·assumption
   ·exact c1
  by_cases c2:1099511627776<=s.next
  ·rw[if_pos c2];exact⟨Int.le_refl _,rfl,.inr ⟨h0,.inr (.inl ⟨rfl,rfl,c2⟩)⟩⟩
  ·rw[if_neg c2];by_cases c3:seg<=s.last.size
   ·rw[if_pos c3];have hg:=(h.inv.file (g,l) (by simp)).size
    have hl:l≠[]:=by
     rintro rfl;rw[hlast] at c3;simp only[rowS,List.flatMap_nil,List.length_nil] at hg;omega
    have hro:=h.roll ho hl hv;have hmo:=DQ ho h.inv.sure.2;have hok:=rI ho;have hnx:=tc s;by_cases c4:(co s).2=0
    ·rw[if_neg (by simp[c4])]
     rcases hro.2 with⟨_,_,⟨e,_⟩|⟨e,_⟩⟩|⟨_,hd,hs2,hw⟩
     ·rw[e] at c4;cases c4
     ·rw[e] at c4;cases c4
     ·have hcap:=hro.1;have hp:=hw.put hok r hr (by rw[hnx];exact ca)
      generalize (co s).1=t at *;have e0:aX (M++[(g,l)]++[(⟨s.next,0,0⟩,[])])=aX (M++[(g,l)]):=by rw[cJ,eJ,List.append_nil]
      refine⟨by rw[hp.1.2];exact hmo,hp.1.1.trans hcap,?_⟩
      rcases hp.2 with⟨h1,h2,_,_,h3⟩|⟨h1,h2,h3⟩
      ·refine .inr ⟨⟨_,_,_,h1,e0⟩,.inr (.inr ?_)⟩;rcases h3 with h3|h3
       ·exact .inl h3.1
       ·exact .inr h3
      ·refine .inl ⟨h1,ca,hr,by omega,h2,_,_,_,h3,?_⟩
       rw[cJ,eJ];rfl
    ·rw[if_pos c4];refine⟨hmo,hro.1,.inr ?_⟩;rcases hro.2 with⟨h1,_,h2⟩|⟨e,_⟩
     ·refine⟨⟨_,_,_,h1,rfl⟩,.inr (.inr ?_)⟩;rcases h2 with h2|h2
      ·exact .inl h2.1
      ·exact .inr h2
     ·exact absurd e c4
   ·rw[if_neg c3];have hp:=h.put ho r hr ca;refine⟨by rw[hp.1.2];exact Int.le_refl _,hp.1.1,?_⟩
    rcases hp.2 with⟨h1,h2,_,_,h3⟩|⟨h1,h2,h3⟩
    ·refine .inr ⟨⟨_,_,_,h1,rfl⟩,.inr (.inr ?_)⟩;rcases h3 with h3|h3
     ·exact .inl h3.1
     ·exact .inr h3
    ·refine .inl ⟨h1,ca,hr,by omega,h2,_,_,_,h3,?_⟩
     rw[cJ,eJ,cJ,eJ,List.append_assoc]
def fY (l:List Pr):Prop:=l.Pairwise fun a b=>a.key<b.key
def dR (l:List Pr) (k:Int):Nat:=l.countP fun p=>decide (p.key<k)
def jR (l:List Pr) (k:Int):Bool:=match l[dR l k]? with|some p=>decide (p.key=k)|none=>false
theorem Fb {l:List Pr} (hs:fY l) (k:Int) (i:Nat) (h:i<l.length):l[i].key<k↔i<dR l k:=by
 have:=oM (fun p:Pr=>decide (p.key<k)) l (hs.imp (fun hab hb=>by simp at hb ⊢;omega)) i h
 simpa[dR] using this
theorem Bt (l:List Pr) (k:Int):dR l k<=l.length:=List.countP_le_length
def jJ (l:List Pr) (k:Int):V:=.tup [(false,[zI (dR l k:Nat)]),(false,[zB (jR l k)])]
theorem Db (p:Pr) (k:Int) (hp:0<=p.key∧p.key<256) (hk:0<=k∧k<256):call 197 [.agg (p.enc.map .d),vk .u8 k] []=some (vi (p.key-k),[]):=by
 apply ah Qv rfl;obtain⟨a,b⟩:=p;simp only at hp;simp only[Pr.enc,List.map_cons,List.map_nil];(simp(disch:=first|decide|omega|(intros;exact aj rfl rfl)|simp only[aa]) only[Pa,go_sem,seval,ak])
 try simp[trim]
theorem Kg (p:Pr) (k:Int) (hp:0<=p.key∧p.key<256) (hk:0<=k∧k<256) (H:Hp):au call 197 [.agg (p.enc.map .d),vk .u8 k] H=some (vi (p.key-k),H):=callIso_pure rfl (Db p k hp hk) rfl
theorem Hg (l:List Pr) (hl:l.length<=1000000) (hs:fY l) (ho:okP l) (k:Int) (hk:0<=k∧k<256):call 196 [.one (.sl 0 2 0 l.length),vk .u8 k,.one (.f 197 [])] [.arr 2 (l.map Pr.enc) 0]=some (jJ l k,[.arr 2 (l.map Pr.enc) 0]):=by
 apply ah Ra rfl;obtain⟨Z,hZ⟩:∃ Z:V × Hp,Z=(jJ l k,[.arr 2 (l.map Pr.enc) 0]):=⟨_,rfl⟩;rw[<- hZ];(simp(disch:=first|decide|omega|(intros;exact aj rfl rfl)|simp only[aa]) only[OY,go_sem,seval,ak])
 refine aB (m:=1) (σ:=Nat × Nat) (fun t=>t.2-t.1) (fun t=>t.1<=dR l k∧dR l k<=t.2∧t.2<=l.length) (fun t=>[V.one (.sl 0 2 0 l.length),vk .u8 k,.one (.f 197 []),vi l.length,vi t.1,vi t.2]) (fun t=>[.arr 2 (l.map Pr.enc) 0])
  (fun t=>Z) ?_ (0,l.length) ⟨zP _,Bt l k,Nat.le_refl _⟩ _ _ cm
 rintro⟨lo,hi⟩ ⟨h1,h2,h3⟩ R hR;simp only at h1 h2 h3 ⊢;by_cases c:lo<hi
 ·have hm:=IF lo hi;have hmid:(lo+hi) / 2<l.length:=by omega
  have hp:=Fb hs k _ hmid;have hmo:=(ho _ (zN hmid)).1;obtain⟨mid,hmd⟩:∃ mid,mid=(lo+hi) / 2:=⟨_,rfl⟩;simp only[<- hmd] at hm hmid hp hmo;have g1:(l.map Pr.enc)[mid]?=some l[mid].enc:=by simp[hmid]
  have hc:=Kg l[mid] k hmo hk;by_cases c2:l[mid].key<k
  ·have:=hp.1 c2;have hcn:l[mid].key-k<0:=by omega
   (simp(disch:=first|decide|omega|(intros;exact aj rfl rfl)|simp only[aa]) only[pH,↓wL,hm,g1,Pr.len,Pr.tkL,Pr.tk,↓hc,hcn,go_sem,seval,ak])
   exact hR (mid+1,hi) (by simp only[];omega) ⟨by simp only[];omega,h2,h3⟩ _ _ cm
  ·have:¬ mid<dR l k:=fun h=>c2 (hp.2 h)
   have hcn:¬ l[mid].key-k<0:=by omega
   (simp(disch:=first|decide|omega|(intros;exact aj rfl rfl)|simp only[aa]) only[pH,↓wL,hm,g1,Pr.len,Pr.tkL,Pr.tk,↓hc,hcn,go_sem,seval,ak])
   exact hR (lo,mid) (by simp only[];omega) ⟨h1,by simp only[];omega,by simp only[];omega⟩ _ _ cm
 ·have hlo:lo=dR l k:=by omega
  subst hlo;by_cases c0:dR l k<l.length
  ·have g1:(l.map Pr.enc)[dR l k]?=some l[dR l k].enc:=by simp[c0]
   have hhas:jR l k=decide (l[dR l k].key=k):=by unfold jR;rw[zE c0]
   have hc:=Kg l[dR l k] k (ho _ (zN c0)).1 hk;by_cases c3:l[dR l k].key=k
   ·have hcz:l[dR l k].key-k=0:=by omega
    (simp(disch:=first|decide|omega|(intros;exact aj rfl rfl)|simp only[aa]) only[pH,c,c0,g1,Pr.len,Pr.tkL,Pr.tk,↓hc,hcz,go_sem,seval,ak])
    rw[hZ];simp[jJ,hhas,c3,trim,V.refs,L.refs,Box.refs]
   ·have hcz:¬ l[dR l k].key-k=0:=by omega
    (simp(disch:=first|decide|omega|(intros;exact aj rfl rfl)|simp only[aa]) only[pH,c,c0,g1,Pr.len,Pr.tkL,Pr.tk,↓hc,hcz,go_sem,seval,ak])
    rw[hZ];simp[jJ,hhas,c3,trim,V.refs,L.refs,Box.refs]
  ·have hhas:jR l k=false:=by unfold jR;rw[List.getElem?_eq_none (by omega)]
   (simp(disch:=first|decide|omega|(intros;exact aj rfl rfl)|simp only[aa]) only[pH,c,c0,go_sem,seval,ak])
   rw[hZ];simp[jJ,hhas,trim,V.refs,L.refs,Box.refs]
theorem CZ (l:List Pr) (hl:l.length<=1000000) (hs:fY l) (ho:okP l) (k:Int) (hk:0<=k∧k<256):call 190 [.one (.sl 0 2 0 l.length),vk .u8 k] [.arr 2 (l.map Pr.enc) 0]=some (jJ l k,[.arr 2 (l.map Pr.enc) 0]):=by
 apply ah Qc rfl;have h:au call 196 [.one (.sl 0 2 0 l.length),vk .u8 k,.one (.f 197 [])] [.arr 2 (l.map Pr.enc) 0]=some (jJ l k,[.arr 2 (l.map Pr.enc) 0]) :=
  aE (ids:=[0]) rfl rfl rfl (Hg l hl hs ho k hk) rfl
 unfold jJ at h ⊢;(simp(disch:=first|decide|omega|(intros;exact aj rfl rfl)|simp only[aa]) only[OG,↓h,go_sem,seval,ak])
 simp[zR]
end Go.Proofs.YtgoifbjgmgbihaaGreat
