import Derived.Test.YtgoifbjgmgbihaaGreatT04
import Derived.Test.YtgoifbjgmgbihaaGreatVid
import Derived.Test.YtgoifbjgmgbihaaGreatT03
set_option linter.unusedSimpArgs false
set_option linter.unusedVariables false
set_option maxRecDepth 20000
set_option maxHeartbeats 16000000
namespace Go.Proofs.YtgoifbjgmgbihaaGreat
open Go.Vi
theorem pm (d:Dsk) (hd:d.ok) (n x:Txt) (hx:x.length<=1000000000000):call 93 [.agg d.l,vs n,vs x] []=some (aP (aj d (bK d.files d.cap n x)),[]):=by
 apply ae TR rfl;have h2:=fH d hd.len hd.srt n;have h4:=bU d hd.left [] 7;have h9:=bU d hd.left [] 9;have hus:=BE d hd.len hd.used;have hul:=hd.used;have hcp:=hd.cap;unfold bK;cases c2:bM d.files n with
 | false =>
  rw[if_neg (by simp)]
  rw[jj c2] at h2;generalize aj d ([],7)=r at *;obtain⟨⟨f2,cp2,ar2,lf2,dn2⟩,e2⟩:=r;obtain⟨fl,cp,ar,lf,dn⟩:=d;simp only[aP,Dsk.l,List.map_nil] at h2 h4 ⊢;refine bC ?_ Ol.eq_1 h2 h4;try simp[trim]
 | true =>
  rw[if_pos rfl];rw[gA c2] at h2;obtain⟨hp,he⟩:=ch c2;by_cases c:0<d.cap∧d.cap-(usedF d.files:Nat)<x.length
  ·rw[if_pos c];obtain⟨c3,c4⟩:=c;have c5:d.cap<(usedF d.files:Nat)+(x.length:Int):=by omega
   generalize aj d ([],9)=r at *;obtain⟨⟨f2,cp2,ar2,lf2,dn2⟩,e2⟩:=r;obtain⟨fl,cp,ar,lf,dn⟩:=d;have hpl:=hd.len;simp only[aP,Dsk.l,List.map_nil] at h2 h9 hus hul hcp c3 c4 c5 hp hpl ⊢;generalize ay fl n=p at *;refine bC ?_ Ol.eq_1 h2 c3 hus c5 h9;try simp[trim]
  ·rw[if_neg c,j6 hp];have g1:(d.files.map Fil.enc)[ay d.files n]?=some d.files[ay d.files n].enc:=by simp[hp]
   have hdl:=rP d.files _ hp;have h3:=mI d.files hd.len hd.srt { d.files[ay d.files n] with data:=d.files[ay d.files n].data++x }
   have h5:=wz hd.srt { d.files[ay d.files n] with data:=d.files[ay d.files n].data++x } (by simp only[he];exact c2)
   rw[h5] at h3;simp only[he] at h3;have hK:=bU d hd.left (d.files.set (ay d.files n) { d.files[ay d.files n] with data:=d.files[ay d.files n].data++x }) 0
   have hpl:=hd.len;generalize ay d.files n=p at *;simp only[he] at hK ⊢;generalize d.files[p]=f at *;obtain⟨fn,fd,fs⟩:=f;simp only at he h3 hK hdl ⊢;subst he;have hfx:fd.length+x.length<=9223372036854775807:=by omega
   obtain⟨fx,hfe⟩:∃ fx,fd++x=fx:=⟨_,rfl⟩;rw[hfe] at h3 hK ⊢;generalize d.files.set p ⟨fn,fx,fs⟩=q at *;generalize aj d (q,0)=r at *;obtain⟨⟨f2,cp2,ar2,lf2,dn2⟩,e2⟩:=r;obtain⟨fl,cp,ar,lf,dn⟩:=d;simp only[aP,Dsk.l,Fil.enc,List.map_cons,List.map_nil] at g1 h2 h3 hK hp hpl hus hul hcp c ⊢;by_cases c3:0<cp
   ·have c5:¬ cp<(usedF fl:Nat)+(x.length:Int):=by omega
    refine bC ?_ Ol.eq_1 h2 c3 hus c5 g1 hfe h3 hK;try simp[trim]
   ·refine bC ?_ Ol.eq_1 h2 c3 g1 hfe h3 hK;try simp[trim]
theorem pj (d:Dsk) (hd:d.ok) (n t:Txt):call 94 [.agg d.l,vs n,vs t] []=some (aP (aj d (iC d.files n t)),[]):=by
 apply ae UD rfl;have h1:=qF t;have h2:=fH d hd.len hd.srt n;have h4:=bU d hd.left [] 7;have h9:=bU d hd.left [] 1;unfold iC;cases c2:bM d.files n with
 | false =>
  rw[if_neg (by simp)]
  rw[jj c2] at h2;generalize aj d ([],7)=r at *;obtain⟨⟨f2,cp2,ar2,lf2,dn2⟩,e2⟩:=r;obtain⟨fl,cp,ar,lf,dn⟩:=d;simp only[aP,Dsk.l,List.map_nil] at h2 h4 ⊢;refine bC ?_ Qi.eq_1 h2 h4;try simp[trim]
 | true =>
  rw[if_pos rfl];rw[gA c2] at h2;obtain⟨hp,he⟩:=ch c2;cases c1:dx t with
  | false =>
   rw[c1] at h1;rw[if_neg (by simp)]
   have hpl:=hd.len;generalize aj d ([],1)=r at *;obtain⟨⟨f2,cp2,ar2,lf2,dn2⟩,e2⟩:=r;obtain⟨fl,cp,ar,lf,dn⟩:=d;simp only[aP,Dsk.l,List.map_nil] at h2 h9 hp hpl ⊢;generalize ay fl n=p at *;refine bC ?_ Qi.eq_1 h2 h1 h9;try simp[trim]
  | true =>
   rw[c1] at h1;rw[if_pos rfl];have g1:(d.files.map Fil.enc)[ay d.files n]?=some d.files[ay d.files n].enc:=by simp[hp]
   have h3:=lE d.files hd.len n;rw[xd hd.srt c2] at h3;have hds:=kO hd.srt (ay d.files n);have hdl:=oV _ _ hp;have hpl:=hd.len;have hna:fo d.files (ay d.files n) t={ d.files[ay d.files n] with name:=t }:=by unfold fo;rw[zE hp]
   have h5:=mI (fi d.files (ay d.files n)) (by omega) hds (fo d.files (ay d.files n) t)
   rw[JC hds] at h5;generalize jv (fi d.files (ay d.files n)) (fo d.files (ay d.files n) t)=q at *;have hK:=bU d hd.left q 0;rw[hna] at h5;generalize fi d.files (ay d.files n)=dq at *;generalize ay d.files n=p at *;generalize d.files[p]=f at *;obtain⟨fn,fd,fs⟩:=f;generalize aj d (q,0)=r at *;obtain⟨⟨f2,cp2,ar2,lf2,dn2⟩,e2⟩:=r;obtain⟨fl,cp,ar,lf,dn⟩:=d;simp only[aP,Dsk.l,Fil.enc,List.map_cons,List.map_nil] at g1 h2 h3 h5 hK hp hpl ⊢;refine bC ?_ Qi.eq_1 h2 h1 g1 h3 h5 hK;try simp[trim]
theorem nI (d:Dsk) (hl:d.files.length<=1000000) (hs:srt d.files) (n:Txt):call 26 [.agg d.l,vs n] []=some (.tup [(false,[.d (.s (bS d.files n).1)]),(false,[.d (.i .i64 (bS d.files n).2)])],[]):=by
 apply ae TU rfl;have h2:=fH d hl hs n;cases c2:bM d.files n with
 | false =>
  have hr:bS d.files n=([],7):=by
   unfold bS;unfold bM at c2;cases hf:d.files[ay d.files n]? with
   | none=>rfl
   | some f =>
    rw[hf] at c2;simp only[] at c2 ⊢;rw[if_neg (by simpa using c2)]
  rw[jj c2] at h2;rw[hr];obtain⟨fl,cp,ar,lf,dn⟩:=d;simp only[Dsk.l] at h2 ⊢;refine bC ?_ R4.eq_1 h2;try simp[trim]
 | true =>
  obtain⟨hp,he⟩:=ch c2;have hr:bS d.files n=(d.files[ay d.files n].data,0):=by
   unfold bS;rw[zE hp];simp[he]
  rw[gA c2] at h2;rw[hr];have g1:(d.files.map Fil.enc)[ay d.files n]?=some d.files[ay d.files n].enc:=by simp[hp]
  generalize ay d.files n=p at *;generalize d.files[p]=f at *;obtain⟨fn,fd,fs⟩:=f;obtain⟨fl,cp,ar,lf,dn⟩:=d;simp only[Dsk.l,Fil.enc] at g1 h2 hp hl ⊢;refine bC ?_ R4.eq_1 h2 g1;try simp[trim]
def gg (n k:Nat):Txt:=(List.range k).map fun j=>UInt8.ofNat (jq n (14-k+j))
theorem Bx (n k:Nat) (h:k<13):gg n (k+1)=UInt8.ofNat (jq n (13-k))::gg n k:=by
 unfold gg;rw[List.range_succ_eq_map,List.map_cons,List.map_map];have e:14-(k+1)+0=13-k:=by omega
 rw[e];congr 1
 apply List.map_congr_left;intro j hj;simp only[Function.comp];have e2:14-(k+1)+(j+1)=14-k+j:=by omega
 rw[Nat.succ_eq_add_one,e2]
theorem qX (n:Nat) (hn:n<=1099511627776):call 52 [vi n] []=some (vs (gg n 13),[]):=by
 apply ae Ux rfl;refine aX ?_ S8.eq_1;obtain⟨Z,hZ⟩:∃ Z:V,Z=vs (gg n 13):=⟨_,rfl⟩;rw[<- hZ];refine ax (m:=0) (σ:=Nat) (fun i=>13-i) (fun i=>i<=13) (fun i=>[vi (n / 10 ^ i:Nat),vs (gg n i),vi i])
  (fun _=>[]) (fun _=>(Z,[])) ?_ 0 (by decide) _ _ ?_
 rotate_left
 ·have e:n / 10 ^ 0=n:=by simp
  rw[e];exact bO
 intro i hi R hR;by_cases c:i<13
 ·have ci:(i:Int)<13:=by omega
  have hK:=hR (i+1) (by omega) (by omega)
  rw[Bx n i c] at hK;have hq:n / 10 ^ (i+1)=n / 10 ^ i / 10:=by rw[Nat.pow_succ,Nat.div_div_eq_div_mul]
  rw[hq] at hK;have hdg:jq n (13-i)=48+n / 10 ^ i % 10:=by
   unfold jq;have:13-(13-i)=i:=by omega
   rw[this]
  rw[hdg] at hK;have hqn:n / 10 ^ i<=n:=Nat.div_le_self _ _;have hlt:(gg n i).length=i:=by simp[gg]
  generalize gg n i=T at *;generalize n / 10 ^ i=q at *;have hm:((q:Nat):Int).tmod 10=((q % 10:Nat):Int):=by rw[Int.tmod_eq_emod_of_nonneg (by omega)];omega
  have hd:((q:Nat):Int).tdiv 10=((q / 10:Nat):Int):=by rw[Int.tdiv_eq_ediv_of_nonneg (by omega)];omega
  have hw:IntKind.u8.wrap (48+((q % 10:Nat):Int))=((48+q % 10:Nat):Int):=by rw[rJ (by omega)];omega
  (simp(disch:=first|decide|omega|(intros;exact aN rfl rfl)|simp only[am]) only[FK,ci,hm,hd,hw,fG,hlt,go_sem,seval,aO])
  exact hK _ _ bO
 ·have hie:i=13:=by omega
  subst hie;refine aX ?_ FK.eq_1;try rw[hZ]
  try simp[trim]
theorem uL {n:Int} (h:0<=n∧n<=1099511627776):call 32 [vi n] []=some (vs (fileN n),[]):=by
 have h1:=qX n.toNat (by omega)
 have e:((n.toNat:Nat):Int)=n:=by omega
 rw[e] at h1;have e2:fileN n=115::gg n.toNat 13:=by
  unfold fileN fc gg;congr 1
 have hl:(gg n.toNat 13).length=13:=by simp[gg]
 rw[e2];generalize gg n.toNat 13=T at *;have c1:¬ n<0:=by omega
 have c2:¬ (1099511627776:Int)<n:=by omega
 apply ae UJ rfl;refine aX ?_ Tl.eq_1 c1 c2 h1 hl;try simp[trim]
theorem Es (s:Sto) (hl:s.segs.length<=1000000):call 72 [.agg s.l] []=some (.agg s.man.l,[]):=by
 apply ae T2 rfl;obtain⟨⟨fl,cp,ar,lf,dn⟩,ver,segs,next,sure,size,sum⟩:=s;simp only at hl;unfold Sto.man;refine OA ?_ Te.eq_1 @Sto.l.eq_1 @Dsk.l.eq_1 @Man.l.eq_1;obtain⟨Z,hZ⟩:∃ Z:V,Z=V.agg [zI ver,.d (.l ((segs.map Seg.base).map eI)),zI size,zW sum]:=⟨_,rfl⟩;rw[<- hZ];refine ax (m:=0) (σ:=Option Nat) (fun t=>match t with|none=>segs.length+1|some i=>segs.length-i) (fun t=>match t with|none=>True|some i=>i+1<=segs.length) (fun t=>match t with|none=>[V.one (.p 0 0),V.one (.p 1 0),V.one (.p 2 0),vi 0]|some i=>[V.one (.p 0 0),V.one (.p 1 0),V.one (.p 2 0),vi ((i+1:Nat):Int)])
  (fun t=>match t with|none=>[.cells [.d (.l (fl.map Fil.enc)),zI cp,zB ar,zI lf,zB dn,zI ver,.d (.l (segs.map Seg.enc)),zI next,zI sure,zI size,zW sum],.cells [zI 0,.ns,zI 0,zW 0],.cells [zI ver,.ns,zI size,zW sum]]|some i=>[.cells [.d (.l (fl.map Fil.enc)),zI cp,zB ar,zI lf,zB dn,zI ver,.d (.l (segs.map Seg.enc)),zI next,zI sure,zI size,zW sum],.cells [zI 0,.ns,zI 0,zW 0],.cells [zI ver,.sl 3 1 0 (i+1),zI size,zW sum],.arr 1 ((segs.take (i+1)).map fun g=>eI g.base) 0]) (fun _=>(Z,[])) ?_ none trivial _ _ ?_
 rotate_left
 ·exact bO
 intro t hi R hR;cases t with
 | none =>
  by_cases c:0<segs.length
  ·have g1:(segs.map Seg.enc)[0]?=some segs[0].enc:=by simp[c]
   have ci:(0:Int)<(segs.length:Int):=by omega
   have hK:=hR (some 0) (by simp only[];omega) (by simp only[];omega)
   have e1:((segs.take (0+1)).map fun g=>eI g.base)=[eI segs[0].base]:=by cases segs with|nil=>cases c|cons a r=>rfl
   clear hR;simp only[] at hK ⊢;rw[e1] at hK;generalize segs[0]=g at *;obtain⟨gb,gn,gz⟩:=g;simp only[Seg.enc,eI] at g1 hK;(simp(disch:=first|decide|omega|(intros;exact aN rfl rfl)|simp only[am]) only[xP,ci,g1,↓yq,MU,go_sem,seval,aO,gc,A.kind,A.xs,bX,A.isN])
   exact hK _ _ bO
  ·have e:segs=[]:=List.length_eq_zero_iff.1 (by omega)
   subst e;clear hR;simp only[];refine OA ?_ xP.eq_1;try rw[hZ]
   try simp[trim]
 | some i =>
  have hln:((segs.take (i+1)).map fun g=>eI g.base).length=i+1:=by simp;omega
  by_cases c:i+1<segs.length
  ·have g1:(segs.map Seg.enc)[i+1]?=some segs[i+1].enc:=by simp[c]
   have hK:=hR (some (i+1)) (by simp only[];omega) (by simp only[];omega)
   clear hR;simp only[] at hK ⊢;have e1:((segs.take (i+1+1)).map fun g=>eI g.base)=((segs.take (i+1)).map fun g=>eI g.base)++[eI segs[i+1].base]:=by
    rw[zO c,List.map_append];rfl
   rw[e1] at hK;generalize ((segs.take (i+1)).map fun g=>eI g.base)=Q at *
   generalize segs[i+1]=g at *;obtain⟨gb,gn,gz⟩:=g;have ci:((i+1:Nat):Int)<(segs.length:Int):=by omega
   simp only[Seg.enc,eI] at g1 hK;(simp(disch:=first|decide|omega|(intros;exact aN rfl rfl)|simp only[am]) only[xP,ci,g1,hln,↓mL,ww,go_sem,seval,aO,gc,A.kind,A.xs,bX,A.isN])
   exact hK _ _ bO
  ·have ci:¬ ((i+1:Nat):Int)<(segs.length:Int):=by omega
   have e:segs.take (i+1)=segs:=zL (by omega)
   clear hR;simp only[];rw[e] at hln ⊢;have e3:(segs.map Seg.base).map eI=segs.map fun g=>eI g.base:=by simp
   rw[e3] at hZ;generalize (segs.map fun g=>eI g.base)=Q at *
   have e4:Q.take (i+1)=Q:=zL (by omega)
   refine OA ?_ xP.eq_1 ci hln e4;rw[hZ];try simp[zR]
def lX (segs:List Int) (i:Nat):Int:=match i with|0 => -1|i+1=>segs.getD i 0
theorem sF (m:Man) (hl:m.segs.length<=1000000):call 75 [.agg m.l] []=some (vb (manB m),[]):=by
 obtain⟨ver,segs,size,sum⟩:=m;unfold manB Man.l;simp only at hl ⊢;apply ae UB rfl;by_cases c1:1<=ver
 ·by_cases c2:ver<=1099511627776
  ·by_cases c3:1<=segs.length
   ·by_cases c4:segs.length<=64
    ·rw[decide_eq_true ⟨c1,c2,c3,c4⟩,Bool.true_and];obtain⟨Z,hZ⟩:∃ Z:V × Hp,Z=(vb (j7 (-1) segs && (if segs.head?=some 0 then decide (size=0∧sum=0) else decide (0<size∧size<=65536))),[]):=⟨_,rfl⟩
     rw[<- hZ];have d1:¬ ver<1:=by omega
     have d2:¬ (1099511627776:Int)<ver:=by omega
     have d3:¬ (segs.length:Int)<1:=by omega
     have d4:¬ (64:Int)<segs.length:=by omega
     refine aX ?_ N1.eq_1 d1 d2 d3 d4;refine ax (m:=0) (σ:=Nat) (fun i=>segs.length-i) (fun i=>i<=segs.length∧j7 (-1) segs=j7 (lX segs i) (segs.drop i)∧(0<i->0<=lX segs i)) (fun i=>[V.one (.p 0 0),vi i])
      (fun _=>[.cells [zI ver,.d (.l (segs.map eI)),zI size,zW sum]]) (fun _=>Z) ?_ 0 ⟨zP _,rfl,by omega⟩ _ _ ?_
     rotate_left
     ·exact bO
     rintro i ⟨hi,hinc,hpv⟩ R hR;by_cases c5:i<segs.length
     ·have c5i:(i:Int)<(segs.length:Int):=by omega
      have g1:(segs.map eI)[i]?=some (eI segs[i]):=by simp[c5]
      rw[vq _ c5] at hinc;have hpn:lX segs (i+1)=segs[i]:=by simp[lX,c5]
      by_cases c6:segs[i]<0
      ·have hd:decide (lX segs i<segs[i]∧segs[i]<=1099511627776)=false:=zF (by
        rintro⟨h1,h2⟩;cases i with
        | zero=>simp only[lX] at h1;omega
        | succ i=>have:=hpv (by omega);omega)
       rw[hd,Bool.false_and] at hinc;rw[hinc,Bool.false_and] at hZ;refine aX ?_ lL.eq_1 c5i g1 @dk @fg c6;rw[hZ]
      ·by_cases c7:(1099511627776:Int)<segs[i]
       ·have hd:decide (lX segs i<segs[i]∧segs[i]<=1099511627776)=false:=zF (by omega)
        rw[hd,Bool.false_and] at hinc;rw[hinc,Bool.false_and] at hZ;refine aX ?_ lL.eq_1 c5i g1 @dk @fg c6 c7;rw[hZ]
       ·cases i with
        | zero =>
         have hd:decide (lX segs 0<segs[0]∧segs[0]<=1099511627776)=true:=zT (by simp only[lX];omega)
         rw[hd,Bool.true_and] at hinc;refine aX ?_ lL.eq_1 c5i g1 @dk @fg c6 c7;exact hR (0+1) (by omega) ⟨by omega,by rw[hpn];exact hinc,fun _=>by rw[hpn];omega⟩ _ _ bO
        | succ i =>
         have hpi:lX segs (i+1)=segs[i]:=by simp[lX,show i<segs.length by omega]
         rw[hpi] at hinc;have g2:(segs.map eI)[i]?=some (eI segs[i]):=by simp[show i<segs.length by omega]
         have hsub:((i+1:Nat):Int)-1=(i:Int):=by omega
         have c0:(0:Int)<((i+1:Nat):Int):=by omega
         by_cases c8:segs[i+1]<=segs[i]
         ·have hd:decide (segs[i]<segs[i+1]∧segs[i+1]<=1099511627776)=false:=zF (by omega)
          rw[hd,Bool.false_and] at hinc;rw[hinc,Bool.false_and] at hZ;refine aX ?_ lL.eq_1 c5i g1 g2 @dk @fg c6 c7 c0 hsub c8;rw[hZ]
         ·have hd:decide (segs[i]<segs[i+1]∧segs[i+1]<=1099511627776)=true:=zT (by omega)
          rw[hd,Bool.true_and] at hinc;refine aX ?_ lL.eq_1 c5i g1 g2 @dk @fg c6 c7 c0 hsub c8;exact hR (i+1+1) (by omega) ⟨by omega,by rw[hpn];exact hinc,fun _=>by rw[hpn];omega⟩ _ _ bO
     ·rw[List.drop_of_length_le (by omega)] at hinc
      have hinc2:j7 (-1) segs=true:=hinc;rw[hinc2,Bool.true_and] at hZ;have c5i:¬ (i:Int)<(segs.length:Int):=by omega
      have g0:(segs.map eI)[0]?=some (eI segs[0]):=by rw[zG,zE c3];rfl
      have hh:segs.head?=some segs[0]:=by rw[List.head?_eq_getElem?];simp
      rw[hh] at hZ;by_cases z:segs[0]=0
      ·rw[if_pos (by rw[z])] at hZ
       by_cases z2:size=0
       ·by_cases z3:sum=0
        ·refine aX ?_ lL.eq_1 c5i g0 @dk @fg z z2 z3;rw[hZ];simp[z2,z3]
        ·refine aX ?_ lL.eq_1 c5i g0 @dk @fg z z2 z3;rw[hZ];simp[z2,z3]
       ·refine aX ?_ lL.eq_1 c5i g0 @dk @fg z z2;rw[hZ];simp[z2]
      ·rw[if_neg (by simpa using z)] at hZ
       by_cases z2:1<=size
       ·by_cases z3:size<=65536
        ·refine aX ?_ lL.eq_1 c5i g0 @dk @fg z z2 z3;rw[hZ];simp[z3];omega
        ·refine aX ?_ lL.eq_1 c5i g0 @dk @fg z z2 z3;rw[hZ];simp[z3]
       ·refine aX ?_ lL.eq_1 c5i g0 @dk @fg z z2;rw[hZ];simp;omega
    ·rw[zF (fun h=>c4 h.2.2.2),Bool.false_and]
     have d1:¬ ver<1:=by omega
     have d2:¬ (1099511627776:Int)<ver:=by omega
     have d3:¬ (segs.length:Int)<1:=by omega
     have d4:(64:Int)<segs.length:=by omega
     refine aX ?_ N1.eq_1 d1 d2 d3 d4;try simp[trim]
   ·rw[zF (fun h=>c3 h.2.2.1),Bool.false_and]
    have d1:¬ ver<1:=by omega
    have d2:¬ (1099511627776:Int)<ver:=by omega
    have d3:(segs.length:Int)<1:=by omega
    refine aX ?_ N1.eq_1 d1 d2 d3;try simp[trim]
  ·rw[zF (fun h=>c2 h.2.1),Bool.false_and]
   have d1:¬ ver<1:=by omega
   have d2:(1099511627776:Int)<ver:=by omega
   refine aX ?_ N1.eq_1 d1 d2;try simp[trim]
 ·rw[zF (fun h=>c1 h.1),Bool.false_and]
  have d1:ver<1:=by omega
  refine aX ?_ N1.eq_1 d1;try simp[trim]
theorem wj (m:Man) (hm:m.ok):call 51 [.agg m.l] []=some (.tup [(false,[.d (.s (bF m).1)]),(false,[.d (.i .i64 (bF m).2)])],[]):=by
 have hr:=sF m hm.len;unfold bF;cases c:manB m with
 | false =>
  rw[c] at hr;apply ae Tj rfl;simp only[Man.l] at hr;refine aX ?_ RD.eq_1 @Man.l.eq_1 hr;try simp[trim]
 | true =>
  rw[c] at hr;have hb:=lR c;obtain⟨h1,h2,h3,h4⟩:=ma c;have hmem:=oY _ _ h3;have hsum:=hm.sum;have hf:call 76 [.one (zW m.sum)] []=some (vs (iH (nR m)),[]):=by
   have:=o4 (nR m);have e:(((nR m).toNat:Nat):Int)=m.sum:=by unfold nR;simp;omega
   rw[e] at this;exact this
  have hp:=gG (fE m) (by omega)
  unfold wu at hp;rw[if_pos ⟨hb.1,by omega⟩] at hp
  have q1:=mY (n:=m.ver) (by omega) (by omega)
  have q2:=mY (n:=(m.segs.length:Int)) (by omega) (by omega)
  rw[Int.toNat_natCast] at q2;have q3:=mY (n:=m.size) (by omega) (by omega)
  have l1:=(wS (n:=m.ver.toNat) (by omega)).2
  have l2:=(wS (n:=m.segs.length) (by omega)).2
  have l3:=(wS (n:=m.size.toNat) (by omega)).2
  unfold cA;have hbd:fE m=((ai m.ver.toNat++ai m.segs.length)++di m.segs++ai m.size.toNat)++iH (nR m):=by
   unfold fE;simp[di,List.append_assoc]
  rw[hbd] at hp hb ⊢;have h4l:=ij (nR m);generalize iH (nR m)=F4 at *;obtain⟨ver,segs,size,sum⟩:=m;simp only[Man.l] at *;apply ae Tj rfl;obtain⟨W,hW⟩:∃ W:Txt,W=aT (((ai ver.toNat++ai segs.length)++di segs++ai size.toNat)++F4):=⟨_,rfl⟩;rw[<- hW] at hp ⊢;have l12:(ai ver.toNat).length+(ai segs.length).length<=9223372036854775807:=by omega
  refine aX ?_ RD.eq_1 hr q1 q2 l12;refine ax (m:=0) (σ:=Nat) (fun i=>segs.length-i) (fun i=>i<=segs.length) (fun i=>[V.one (.p 0 0),vs ((ai ver.toNat++ai segs.length)++di (segs.take i)),vi i])
   (fun _=>[.cells [zI ver,.d (.l (segs.map eI)),zI size,zW sum]]) (fun _=>(V.tup [(false,[zS W]),(false,[zI 0])],[])) ?_ 0 (zP _) _ _ ?_
  rotate_left
  ·have e:(ai ver.toNat++ai segs.length)++di (segs.take 0)=ai ver.toNat++ai segs.length:=by simp[di]
   rw[e];exact bO
  intro i hi R hR;have hln:=mW (segs.take i) (fun n hn=>by have:=hmem n (zZ hn);omega)
  have hti:(segs.take i).length=i:=by simp;omega
  rw[hti] at hln;by_cases c5:i<segs.length
  ·have g1:(segs.map eI)[i]?=some (eI segs[i]):=by simp[c5]
   have hmi:=hmem _ (zN c5);have q4:=mY (n:=segs[i]) (by omega) (by omega)
   have l4:=(wS (n:=segs[i].toNat) (by omega)).2
   have hR':=hR (i+1) (by omega) (by omega)
   have e1:di (segs.take (i+1))=di (segs.take i)++ai segs[i].toNat:=by
    rw[zO c5,uP];simp[di]
   rw[e1,<- List.append_assoc] at hR';obtain⟨P,hP⟩:∃ P:Txt,P=(ai ver.toNat++ai segs.length)++di (segs.take i):=⟨_,rfl⟩;have hPl:P.length+(ai segs[i].toNat).length<=9223372036854775807:=by rw[hP,zA,zA];omega
   rw[<- hP] at hR' ⊢;refine aX ?_ Ii.eq_1 g1 @dk @fg q4 hPl;exact hR' _ _ bO
  ·have hin:i=segs.length:=by omega
   subst hin;rw[List.take_length] at hln ⊢;obtain⟨P,hP⟩:∃ P:Txt,P=(ai ver.toNat++ai segs.length)++di segs:=⟨_,rfl⟩;have hPl:P.length+(ai size.toNat).length<=9223372036854775807:=by rw[hP,zA,zA];omega
   have hPl2:(P++ai size.toNat).length+F4.length<=9223372036854775807:=by rw[hP,zA,zA,zA];omega
   rw[<- hP] at hp ⊢;obtain⟨P2,hP2⟩:∃ P2:Txt,P2=P++ai size.toNat:=⟨_,rfl⟩;rw[<- hP2] at hp hPl2;(simp(disch:=first|decide|omega|(intros;exact aN rfl rfl)|simp only[am]) only[Ii,q3,hPl,<- hP2,hPl2,hf,hp,go_sem,seval,aO])
   try simp[trim]
theorem zv (l:List Fil) (n:Txt):(bS l n).2=0↔bM l n=true:=by
 unfold bS bM;cases l[ay l n]? with
 | none=>simp
 | some f =>
  simp only[];by_cases h:f.name=n
  ·simp[h]
  ·simp[h]
def qI (tx:Txt) (d:Dsk):Dsk × Int :=
 let c:=aj d (bm d.files [110])
 if c.2≠0 then c else
  let p:=aj c.1 (bK c.1.files c.1.cap [110] tx)
  if p.2=9 then(let x:=aj p.1 (bP p.1.files [110]);if x.2=0 then(x.1,9) else x) else
   if p.2≠0 then p else
    let y:=aj p.1 (ct p.1.files [110])
    if y.2≠0 then y else aj y.1 (iC y.1.files [110] [109])
def AU (m:Man) (d:Dsk):Dsk × Int :=
 if(bF m).2≠0 then(d,(bF m).2) else
  if bM d.files [110]=true then(let x:=aj d (bP d.files [110]);if x.2≠0 then x else qI (bF m).1 x.1) else qI (bF m).1 d
theorem gC {s:Dsk × Int} (h:s.2≠0) (f:Dsk->Dsk × Int):vC s f=s:=by unfold vC;rw[if_neg h]
theorem bv (d:Dsk) (f:Dsk->Dsk × Int):vC (d,0) f=f d:=by unfold vC;rw[if_pos rfl]
theorem ko {s:Dsk × Int} {e:Int} (h:s.2=e):s=(s.1,e):=by rw[<- h]
theorem BY (tx:Txt) (d:Dsk):(if(bL [110] (d,0)).2≠0 then bL [110] (d,0) else wc [110] [109] (ga [110] (cO [110] (fO [110] tx (bL [110] (d,0))))))=qI tx d:=by
 unfold qI;have e0:bL [110] (d,0)=aj d (bm d.files [110]):=bv _ _;rw[e0];simp only[];generalize aj d (bm d.files [110])=c;by_cases h1:c.2=0
 ·rw[if_neg (by simp[h1]),if_neg (by simp[h1]),ko h1]
  have e1:fO [110] tx (c.1,0)=aj c.1 (bK c.1.files c.1.cap [110] tx):=bv _ _;rw[e1];simp only[];generalize aj c.1 (bK c.1.files c.1.cap [110] tx)=p;by_cases h2:p.2=9
  ·rw[if_pos h2];unfold cO;rw[if_neg (by simp[h2])]
   have e2:dF [110] (p.1,0)=aj p.1 (bP p.1.files [110]):=bv _ _;rw[e2];generalize aj p.1 (bP p.1.files [110])=x;by_cases h3:x.2=0
   ·rw[if_pos h3];rfl
   ·rw[if_neg h3];unfold wc ga;rw[gC (s:=x) h3,gC h3]
  ·rw[if_neg h2];unfold cO;rw[if_pos h2];by_cases h3:p.2=0
   ·rw[if_neg (by simp[h3]),ko h3]
    have e2:ga [110] (p.1,0)=aj p.1 (ct p.1.files [110]):=bv _ _;rw[e2];simp only[];generalize aj p.1 (ct p.1.files [110])=y;by_cases h4:y.2=0
    ·rw[if_neg (by simp[h4]),ko h4]
     exact bv _ _
    ·rw[if_pos h4];exact gC h4 _
   ·rw[if_pos h3];unfold wc ga;rw[gC h3,gC h3]
 ·rw[if_pos h1,if_pos h1]
theorem I8 (m:Man) (d:Dsk):bT m (d,0)=AU m d:=by
 unfold bT AU;simp only[if_true];by_cases h1:(bF m).2=0
 ·rw[if_neg (c:=(bF m).2≠0) (by simp[h1])]
  by_cases h2:bM d.files [110]=true
  ·rw[if_pos h2,if_pos ((zv _ _).2 h2),h1];have e0:dF [110] (d,0)=aj d (bP d.files [110]):=bv _ _;rw[e0];generalize aj d (bP d.files [110])=x;by_cases h3:x.2=0
   ·rw[if_neg (c:=x.2≠0) (by simp[h3]),ko h3];exact BY _ _
   ·rw[if_pos (c:=x.2≠0) h3];have e1:bL [110] x=x:=gC h3 _;simp only[e1];rw[if_pos (c:=x.2≠0) h3]
  ·rw[if_neg h2,if_neg (fun h=>h2 ((zv _ _).1 h)),h1]
   exact BY _ _
 ·rw[if_pos h1];have e0:dF [110] (d,(bF m).2)=(d,(bF m).2):=gC h1 _;rw[e0,ite_self];have e1:bL [110] (d,(bF m).2)=(d,(bF m).2):=gC h1 _;rw[e1,if_pos h1]
theorem AM (d:Dsk) {k u:Nat} (hd:okN k u d) (hk:k<=900000) (hu:u<=900000000000) (m:Man) (hm:m.ok):call 71 [.agg d.l,.agg m.l] []=some (aP (bT m (d,0)),[]):=by
 rw[I8];have q0:=wj m hm;have hpl:=lw m;unfold AU;generalize bF m=p0 at *;obtain⟨tx,pe⟩:=p0;obtain⟨mv,ms,mz,mm⟩:=m;have q1:=fH d (Nat.le_trans hd.len (by omega)) hd.srt [110]
 have q2:=kP d (hd.ok (by omega) (by omega)) [110]
 have k1:okN k u (aj d (bP d.files [110])).1:=dZ (s:=(d,0)) hd [110];simp only[Man.l] at q0 hpl ⊢;apply ae TL rfl;by_cases c0:pe=0
 ·subst c0;rw[if_neg (by simp)]
  cases c1:bM d.files [110] with
  | true =>
   rw[if_pos rfl];rw[gA c1] at q1;generalize ay d.files [110]=pp at *;generalize aj d (bP d.files [110])=x at *;by_cases c2:x.2=0
   ·rw[if_neg (by simp[c2])]
    rw[ko c2] at q2;generalize x.1=y at *;have t1:=kX y (k1.ok (by omega) (by omega)) [110]
    have k2:=eA (s:=(y,0)) k1 [110];have ec:bL [110] (y,0)=aj y (bm y.files [110]):=bv _ _;rw[ec] at k2;unfold qI;simp only[];generalize aj y (bm y.files [110])=c at *;by_cases c3:c.2=0
    ·rw[if_neg (by simp[c3])]
     have t2:=pm c.1 (k2.ok (by omega) (by omega)) [110] tx (by omega)
     have k3:=iY (s:=(c.1,0)) k2 [110] tx;have ea:fO [110] tx (c.1,0)=aj c.1 (bK c.1.files c.1.cap [110] tx):=bv _ _;rw[ea] at k3;generalize aj c.1 (bK c.1.files c.1.cap [110] tx)=p at *;have t3:=kP p.1 (k3.ok (by omega) (by omega)) [110]
     have t4:=sK p.1 (k3.ok (by omega) (by omega)) [110]
     have k4:=lu (s:=(p.1,0)) k3 [110];have es:ga [110] (p.1,0)=aj p.1 (ct p.1.files [110]):=bv _ _;rw[es] at k4;generalize aj p.1 (bP p.1.files [110])=r at *;generalize aj p.1 (ct p.1.files [110])=w at *;have t5:=pj w.1 (k4.ok (by omega) (by omega)) [110] [109]
     generalize aj w.1 (iC w.1.files [110] [109])=v at *;obtain⟨⟨f1,cp1,ar1,lf1,dn1⟩,e1⟩:=c;obtain⟨⟨f2,cp2,ar2,lf2,dn2⟩,e2⟩:=p;obtain⟨⟨f3,cp3,ar3,lf3,dn3⟩,e3⟩:=r;obtain⟨⟨f4,cp4,ar4,lf4,dn4⟩,e4⟩:=w;obtain⟨⟨f5,cp5,ar5,lf5,dn5⟩,e5⟩:=v;obtain⟨fy,cpy,ary,lfy,dny⟩:=y;obtain⟨fl,cp,ar,lf,dn⟩:=d;simp only[aP,Dsk.l] at q1 q2 t1 t2 t3 t4 t5 c3 ⊢;subst c3;by_cases c4:e2=9
     ·subst c4;rw[if_pos rfl];by_cases c5:e3=0
      ·subst c5;refine bC ?_ Ao.eq_1 q0 q1 q2 t1 t2 t3;try simp[trim]
      ·refine bC ?_ Ao.eq_1 q0 q1 q2 t1 t2 t3 c5;try simp[trim,c5]
     ·rw[if_neg c4];by_cases c5:e2=0
      ·subst c5;by_cases c6:e4=0
       ·subst c6;refine bC ?_ Ao.eq_1 q0 q1 q2 t1 t2 t4 t5;try simp[trim]
       ·refine bC ?_ Ao.eq_1 q0 q1 q2 t1 t2 t4 c6;try simp[trim,c6]
      ·refine bC ?_ Ao.eq_1 q0 q1 q2 t1 t2 c4 c5;try simp[trim,c4,c5]
    ·rw[if_pos c3];obtain⟨⟨f1,cp1,ar1,lf1,dn1⟩,e1⟩:=c;obtain⟨fy,cpy,ary,lfy,dny⟩:=y;obtain⟨fl,cp,ar,lf,dn⟩:=d;simp only[aP,Dsk.l] at q1 q2 t1 c3 ⊢;refine bC ?_ Ao.eq_1 q0 q1 q2 t1 c3;try simp[trim,c3]
   ·rw[if_pos c2];obtain⟨⟨fx,cpx,arx,lfx,dnx⟩,ex⟩:=x;obtain⟨fl,cp,ar,lf,dn⟩:=d;simp only[aP,Dsk.l] at q1 q2 c2 ⊢;refine bC ?_ Ao.eq_1 q0 q1 q2 c2;try simp[trim,c2]
  | false =>
   rw[if_neg (by simp)]
   rw[jj c1] at q1;clear q2 k1;have k1:=hd;obtain⟨y,hy⟩:∃ y,y=d:=⟨_,rfl⟩;have q2:True:=trivial;rw[<- hy] at k1;have hyd:qI tx d=qI tx y:=by rw[hy]
   rw[hyd];have t1:=kX y (k1.ok (by omega) (by omega)) [110]
   have k2:=eA (s:=(y,0)) k1 [110];have ec:bL [110] (y,0)=aj y (bm y.files [110]):=bv _ _;rw[ec] at k2;unfold qI;simp only[];generalize aj y (bm y.files [110])=c at *;by_cases c3:c.2=0
   ·rw[if_neg (by simp[c3])]
    have t2:=pm c.1 (k2.ok (by omega) (by omega)) [110] tx (by omega)
    have k3:=iY (s:=(c.1,0)) k2 [110] tx;have ea:fO [110] tx (c.1,0)=aj c.1 (bK c.1.files c.1.cap [110] tx):=bv _ _;rw[ea] at k3;generalize aj c.1 (bK c.1.files c.1.cap [110] tx)=p at *;have t3:=kP p.1 (k3.ok (by omega) (by omega)) [110]
    have t4:=sK p.1 (k3.ok (by omega) (by omega)) [110]
    have k4:=lu (s:=(p.1,0)) k3 [110];have es:ga [110] (p.1,0)=aj p.1 (ct p.1.files [110]):=bv _ _;rw[es] at k4;generalize aj p.1 (bP p.1.files [110])=r at *;generalize aj p.1 (ct p.1.files [110])=w at *;have t5:=pj w.1 (k4.ok (by omega) (by omega)) [110] [109]
    generalize aj w.1 (iC w.1.files [110] [109])=v at *;obtain⟨⟨f1,cp1,ar1,lf1,dn1⟩,e1⟩:=c;obtain⟨⟨f2,cp2,ar2,lf2,dn2⟩,e2⟩:=p;obtain⟨⟨f3,cp3,ar3,lf3,dn3⟩,e3⟩:=r;obtain⟨⟨f4,cp4,ar4,lf4,dn4⟩,e4⟩:=w;obtain⟨⟨f5,cp5,ar5,lf5,dn5⟩,e5⟩:=v;subst hy;obtain⟨fl,cp,ar,lf,dn⟩:=y;simp only[aP,Dsk.l] at q1 t1 t2 t3 t4 t5 c3 ⊢;subst c3;by_cases c4:e2=9
    ·subst c4;rw[if_pos rfl];by_cases c5:e3=0
     ·subst c5;refine bC ?_ Ao.eq_1 q0 q1 t1 t2 t3;try simp[trim]
     ·refine bC ?_ Ao.eq_1 q0 q1 t1 t2 t3 c5;try simp[trim,c5]
    ·rw[if_neg c4];by_cases c5:e2=0
     ·subst c5;by_cases c6:e4=0
      ·subst c6;refine bC ?_ Ao.eq_1 q0 q1 t1 t2 t4 t5;try simp[trim]
      ·refine bC ?_ Ao.eq_1 q0 q1 t1 t2 t4 c6;try simp[trim,c6]
     ·refine bC ?_ Ao.eq_1 q0 q1 t1 t2 c4 c5;try simp[trim,c4,c5]
   ·rw[if_pos c3];obtain⟨⟨f1,cp1,ar1,lf1,dn1⟩,e1⟩:=c;subst hy;obtain⟨fl,cp,ar,lf,dn⟩:=y;simp only[aP,Dsk.l] at q1 t1 c3 ⊢;refine bC ?_ Ao.eq_1 q0 q1 t1 c3;try simp[trim,c3]
 ·rw[if_pos c0];obtain⟨fl,cp,ar,lf,dn⟩:=d;simp only[aP,Dsk.l] at ⊢;refine bC ?_ Ao.eq_1 q0 c0;try simp[trim,c0]
theorem KA (d:Dsk):aG d=(let c:=aj d (bm d.files (fileN 0));if c.2≠0 then(⟨c.1,0,[],0,0,0,0⟩,c.2) else
  let w:=bT ⟨1,[0],0,0⟩ (c.1,0);if w.2≠0 then(⟨w.1,0,[],0,0,0,0⟩,w.2) else(⟨w.1,1,[⟨0,0,0⟩],0,0,0,0⟩,0)):=by
 unfold aG;have e0:bL (fileN 0) (d,0)=aj d (bm d.files (fileN 0)):=bv _ _;rw[e0];simp only[];generalize aj d (bm d.files (fileN 0))=c;by_cases h:c.2=0
 ·rw[if_pos h,if_neg (show ¬ (c.2≠0) from by simp[h]),<- ko h]
  generalize bT ⟨1,[0],0,0⟩ c=w;by_cases h2:w.2=0
  ·simp[h2]
  ·simp[h2]
 ·simp[h]
theorem En {k u:Nat} (d:Dsk) (hd:okN k u d) (hk:k<=800000) (hu:u<=800000000000):call 48 [.agg d.l] []=some (dG (aG d),[]):=by
 rw[KA];have q1:=uL (n:=0) ⟨by decide,by decide⟩
 have q2:=kX d (hd.ok (by omega) (by omega)) (fileN 0)
 have k1:okN (k+1) u (aj d (bm d.files (fileN 0))).1:=by
  have:=eA (s:=(d,0)) hd (fileN 0);exact this
 have q3:=fun dd:Dsk=>Es ⟨dd,1,[⟨0,0,0⟩],0,0,0,0⟩ (by simp)
 simp only[];generalize aj d (bm d.files (fileN 0))=c at *;have q3:=q3 c.1;have q4:=AM c.1 k1 (by omega) (by omega) ⟨1,[0],0,0⟩ ⟨by simp,by simp⟩
 generalize bT ⟨1,[0],0,0⟩ (c.1,0)=w at *;apply ae UM rfl;generalize fileN 0=N at *;obtain⟨fl,cp,ar,lf,dn⟩:=d;obtain⟨⟨f1,cp1,ar1,lf1,dn1⟩,e1⟩:=c;obtain⟨⟨f3,cp3,ar3,lf3,dn3⟩,e3⟩:=w;simp only[aP,Dsk.l,Sto.l,Seg.enc,Sto.man,Man.l,List.cons_append,List.nil_append,List.map_cons,List.map_nil,eI] at q1 q2 q3 q4 ⊢;by_cases c1:e1=0
 ·subst c1;by_cases c3:e3=0
  ·subst c3;(simp(disch:=first|decide|omega|(intros;exact aN rfl rfl)|simp only[am]) only[gu,Qs,q1,q2,↓o9,F0,jh,uy,cu,q3,q4,go_sem,seval,aO,gc,A.kind,A.xs,bX,A.isN])
   try simp[trim,dG,Sto.l,Dsk.l,Seg.enc]
  ·(simp(disch:=first|decide|omega|(intros;exact aN rfl rfl)|simp only[am]) only[gu,Qs,q1,q2,↓o9,F0,jh,uy,cu,q3,q4,c3,go_sem,seval,aO,gc,A.kind,A.xs,bX,A.isN])
   try simp[trim,dG,Sto.l,Dsk.l,Seg.enc,c3]
 ·refine dm ?_ Qs.eq_1 q1 q2 c1;try simp[trim,dG,Sto.l,Dsk.l,Seg.enc,c1]
theorem Kh (n:Int):(n != n)=false:=by simp
theorem Hb (n:Bool):(n != n)=false:=by simp
theorem lP (s:Sto):call 17 [.agg s.l] []=some (vi s.floor,[]):=by
 apply ae UI rfl;obtain⟨⟨fl,cp,ar,lf,dn⟩,ver,segs,next,sure,size,sum⟩:=s;unfold Sto.floor;cases segs with
 | nil=>(refine aX ?_ SB.eq_1 @Sto.l.eq_1 @Dsk.l.eq_1;try exact True.intro)
 | cons g r =>
  refine aX ?_ SB.eq_1 @Sto.l.eq_1 @Dsk.l.eq_1 @Seg.len @Seg.at0;try simp[trim]
theorem HJ {k u:Nat} (s:Sto) (h:okS k u s) (hk:k<=800000) (hu:u<=1000000) (g:Seg) (hg:g∈s.segs):call 41 [.agg s.l,.agg (g.enc.map .d)] []=some (vl ((fb (s.txt g) g.base).1.map fun x=>x.1.enc),[]):=by
 have hb:=(h.seg _ hg).1;have q1:=uL hb;have q2:=nI s.disk (Nat.le_trans h.dsk.len (by omega)) h.dsk.srt (fileN g.base)
 have hl:(s.txt g).length<=1000000:=Nat.le_trans (iR _ _) (Nat.le_trans h.dsk.used hu);have q3:=wA (s.txt g) hl g.base (by omega)
 have e2:(bS s.disk.files (fileN g.base)).1=s.txt g:=rfl;rw[e2] at q2;unfold iw at q3;generalize (fb (s.txt g) g.base)=sc at *;generalize s.txt g=T at *;generalize (bS s.disk.files (fileN g.base)).2=re at *;generalize fileN g.base=N at *;obtain⟨b,n,z⟩:=g;obtain⟨⟨fl,cp,ar,lf,dn⟩,ver,segs,next,sure,size,sum⟩:=s;simp only[Seg.enc,List.map_cons,List.map_nil,Sto.l,Dsk.l,List.cons_append,List.nil_append] at q1 q2 q3 ⊢;apply ae TM rfl;refine bC ?_ Tf.eq_1 q1 q2 q3;try simp[trim]
def jr (R:List Rec) (off:Int):V:=match R.find? (fun r=>decide (r.at_=off)) with
 | some r=>.tup [(true,r.enc.map .d),(false,[.d (.i .i64 0)])]
 | none=>.tup [(true,[.d (.i .i64 0),.d (.i .i64 0),.d (.s [])]),(false,[.d (.i .i64 11)])]
theorem IM {r:Rec} {R:List Rec} {off:Int} (h:r.at_≠off):jr (r::R) off=jr R off:=by
 unfold jr;rw[List.find?_cons_of_neg (by simpa using h)]
theorem FC {r:Rec} {R:List Rec} {off:Int} (h:r.at_=off):jr (r::R) off=.tup [(true,r.enc.map .d),(false,[zI 0])]:=by
 unfold jr;rw[List.find?_cons_of_pos (by simpa using h)]
theorem EN (N:List SR) (i:Nat) (h:i<N.length):aM (N.drop i)=N[i].2++aM (N.drop (i+1)):=by
 rw[zD h];rfl
def il (f:Seg->Int):List Seg->Int
 | []=>0
 | g::r=>f g+il f r
theorem FF (f:Seg->Int) (u:Nat):∀ (l:List Seg),(∀ g∈l,0<=f g∧f g<=u)->0<=il f l∧il f l<=l.length*u
 | [],_=>by simp[il]
 | x::r,h=>by
  have h1:=h x (by simp)
  have h2:=FF f u r (fun g hg=>h g (by simp[hg]))
  simp only[il,List.length_cons];rw[Int.natCast_add,Int.add_mul];omega
theorem G6 (f:Seg->Int) (l:List Seg) (hl:l.length<=1000) (h:∀ g∈l,0<=f g∧f g<=(1000000000000:Nat)) (i:Nat):0<=il f (l.take i)∧il f (l.take i)<=1000000000000000:=by
 have:=FF f 1000000000000 (l.take i) (fun g hg=>h g (zZ hg))
 have h2:(l.take i).length<=1000:=Nat.le_trans (List.length_take_le' _ _) hl;have h3:((l.take i).length:Int)*((1000000000000:Nat):Int)<=1000*1000000000000:=by omega
 omega
def HC (l:List Seg) (keep count:Int):Bool:=decide (1<l.length) && (decide (keep<il Seg.size (l.take (l.length-1))) || decide (count<il Seg.n l))
def H5 (l:List Seg):Prop:=l.length<=1000∧∀ g∈l,(0<=g.n∧g.n<=(1000000000000:Nat))∧(0<=g.size∧g.size<=(1000000000000:Nat))
def dV (l:List Seg) (keep count:Int) (k:Nat):Bool := !HC (l.drop k) keep count
def eD (l:List Seg) (keep count:Int):Nat:=match (List.range l.length).find? (dV l keep count) with|some k=>k|none=>0
theorem tZ (l:List Seg) (keep count:Int) (h:eD l keep count≠0):eD l keep count<l.length:=by
 unfold eD at *;cases hf:(List.range l.length).find? (dV l keep count) with
 | none=>rw[hf] at h;exact absurd rfl h
 | some k=>simpa using List.mem_of_find?_eq_some hf
def Sto.scans (s:Sto):List SR:=s.segs.map fun g=>(g,(fb (s.txt g) g.base).1.map (·.1))
theorem Dt {k u:Nat} {s:Sto} (h:okS k u s) (hu:u<=1000000):∀ p∈s.scans,p.2.length<=1000000:=by
 intro p hp;simp only[Sto.scans,List.mem_map] at hp;obtain⟨g,hg,rfl⟩:=hp;rw[zM];exact Nat.le_trans (uC _ _) (Nat.le_trans (iR _ _) (Nat.le_trans h.dsk.used hu))
def lG (s:Sto) (off:Int):V:=if off<0∨s.next<=off then .tup [(true,[zI 0,zI 0,.d (.s [])]),(false,[zI 6])] else jr (aM s.scans) off
theorem uD {k u:Nat} (s:Sto) (h:okS k u s) (hk:k<=800000) (hu:u<=1000000) (off:Int):call 18 [.agg s.l,vi off] []=some (lG s off,[]):=by
 have hall:=fun g hg=>HJ s h hk hu g hg
 have n1:s.segs=s.scans.map (·.1):=by rw[Sto.scans,List.map_map];exact(List.map_id s.segs).symm
 have n3:∀ p∈s.scans,((fb (s.txt p.1) p.1.base).1.map fun x=>x.1.enc)=p.2.map Rec.enc:=by
  intro p hp;simp only[Sto.scans,List.mem_map] at hp;obtain⟨g,hg,rfl⟩:=hp;simp
 have hlen:=h.len;have hcell:s.l=[.d (.l (s.disk.files.map Fil.enc)),zI s.disk.cap,zB s.disk.armed,zI s.disk.left,zB s.disk.down,zI s.ver,.d (.l (s.segs.map Seg.enc)),zI s.next,zI s.sure,zI s.size,zW s.sum]:=rfl;apply ae UH rfl;rw[hcell] at hall ⊢;by_cases c1:off<0
 ·have e:lG s off=.tup [(true,[zI 0,zI 0,.d (.s [])]),(false,[zI 6])]:=by unfold lG;rw[if_pos (.inl c1)]
  rw[e];refine bC ?_ Qm.eq_1 c1;try simp[trim]
 ·by_cases c2:s.next<=off
  ·have e:lG s off=.tup [(true,[zI 0,zI 0,.d (.s [])]),(false,[zI 6])]:=by unfold lG;rw[if_pos (.inr c2)]
   rw[e];refine bC ?_ Qm.eq_1 c1 c2;try simp[trim]
  ·have e:lG s off=jr (aM s.scans) off:=by unfold lG;rw[if_neg (by omega)]
   rw[e];obtain⟨R,n2⟩:∃ R,aM s.scans=R:=⟨_,rfl⟩;rw[n2];have hsc:=Dt h hu;obtain⟨N,hN⟩:∃ N,N=s.scans:=⟨_,rfl⟩;rw[<- hN] at n1 n2 n3 hsc;obtain⟨Z,hZ⟩:∃ Z:V,Z=jr R off:=⟨_,rfl⟩;rw[<- hZ];refine bC ?_ Qm.eq_1 c1 c2;have hNl:N.length=s.segs.length:=by rw[n1];simp
   refine ax (m:=0) (σ:=Nat) (fun i=>N.length-i) (fun i=>i<=N.length∧jr R off=jr (aM (N.drop i)) off) (fun i=>[vi off,V.one (.p 0 0),V.one (.p 1 0),vi i])
    (fun _=>[.cells [.d (.l (s.disk.files.map Fil.enc)),zI s.disk.cap,zB s.disk.armed,zI s.disk.left,zB s.disk.down,zI s.ver,.d (.l (s.segs.map Seg.enc)),zI s.next,zI s.sure,zI s.size,zW s.sum],.cells [zI 0,zI 0,.d (.s [])]]) (fun _=>(Z,[])) ?_ 0 ⟨zP _,by rw[List.drop_zero,n2]⟩ _ _ ?_
   rotate_left
   ·exact bO
   rintro i ⟨hi,hinv⟩ K hK;by_cases c3:i<N.length
   ·have ci:(i:Int)<(s.segs.length:Int):=by omega
    have hsi:s.segs[i]?=some N[i].1:=by rw[n1];simp[c3]
    have hmem:N[i].1∈s.segs:=List.mem_of_getElem? hsi;have g1:(s.segs.map Seg.enc)[i]?=some N[i].1.enc:=by rw[zG,hsi];rfl
    have g2:=hall _ hmem;rw[n3 _ (zN c3)] at g2;rw[EN N i c3] at hinv;have hpl:N[i].2.length<=1000000:=hsc _ (zN c3);generalize N[i]=p at *;obtain⟨⟨pb,pn,pz⟩,pl⟩:=p;simp only[Seg.enc,List.map_cons,List.map_nil] at g1 g2 hinv hpl;refine bC ?_ He.eq_1 ci g1 g2;refine ax (m:=0) (σ:=Nat) (fun j=>pl.length-j) (fun j=>j<=pl.length∧jr R off=jr (pl.drop j++aM (N.drop (i+1))) off) (fun j=>[vi off,V.one (.p 0 0),V.one (.p 1 0),vi i,vl (pl.map Rec.enc),vi j])
     (fun _=>[.cells [.d (.l (s.disk.files.map Fil.enc)),zI s.disk.cap,zB s.disk.armed,zI s.disk.left,zB s.disk.down,zI s.ver,.d (.l (s.segs.map Seg.enc)),zI s.next,zI s.sure,zI s.size,zW s.sum],.cells [zI 0,zI 0,.d (.s [])]]) (fun _=>(Z,[])) ?_ 0 ⟨zP _,hinv⟩ _ _ ?_
    rotate_left
    ·exact bO
    rintro j ⟨hj,hinv2⟩ K2 hK2;by_cases c4:j<pl.length
    ·have cj:(j:Int)<(pl.length:Int):=by omega
     have g3:(pl.map Rec.enc)[j]?=some pl[j].enc:=by simp[c4]
     rw[zD c4,List.cons_append] at hinv2;generalize pl[j]=r at *;by_cases c5:r.at_=off
     ·rw[FC c5] at hinv2;rw[hinv2] at hZ;obtain⟨ra,rt,rd⟩:=r;simp only[Rec.enc,List.map_cons,List.map_nil] at g3 c5 hZ;refine bC ?_ y8.eq_1 cj g3 c5;rw[hZ];try simp[trim,c5]
     ·rw[IM c5] at hinv2;obtain⟨ra,rt,rd⟩:=r;simp only[Rec.enc,List.map_cons,List.map_nil] at g3 c5;refine bC ?_ y8.eq_1 cj g3 c5;exact hK2 (j+1) (by omega) ⟨by omega,hinv2⟩ _ _ bO
    ·have cj:¬ (j:Int)<(pl.length:Int):=by omega
     rw[List.drop_of_length_le (by omega),List.nil_append] at hinv2
     refine bC ?_ y8.eq_1 cj;exact hK (i+1) (by omega) ⟨by omega,hinv2⟩ _ _ bO
   ·have ci:¬ (i:Int)<(s.segs.length:Int):=by omega
    rw[List.drop_of_length_le (by omega)] at hinv
    have e:jr (aM []) off=.tup [(true,[zI 0,zI 0,.d (.s [])]),(false,[zI 11])]:=rfl;rw[e] at hinv;rw[hinv] at hZ;refine bC ?_ He.eq_1 ci;rw[hZ];try simp[trim]
def aH (n:Int):Txt:=fc 116 n.toNat
theorem lV {n:Int} (h:0<=n∧n<=1099511627776):call 108 [vi n] []=some (vs (aH n),[]):=by
 apply ae Qz rfl;have h1:=uH 116 n.toNat (by omega)
 have e:(((116:UInt8).toNat:Nat):Int)=116:=rfl;have e2:((n.toNat:Nat):Int)=n:=by omega
 rw[e,e2] at h1;have e3:aH n=fc 116 n.toNat:=rfl;rw[e3];refine aX ?_ Qe.eq_1 h1;try simp[trim]
theorem Ec {n:Int} (h:0<=n∧n<=1099511627776):call 29 [vi n] []=some (vs (aH n),[]):=by
 have h1:=qX n.toNat (by omega)
 have e:((n.toNat:Nat):Int)=n:=by omega
 rw[e] at h1;have e2:aH n=116::gg n.toNat 13:=by
  unfold aH fc gg;congr 1
 have hl:(gg n.toNat 13).length=13:=by simp[gg]
 rw[e2];generalize gg n.toNat 13=T at *;have c1:¬ n<0:=by omega
 have c2:¬ (1099511627776:Int)<n:=by omega
 apply ae Uv rfl;refine aX ?_ S7.eq_1 c1 c2 h1 hl;try simp[trim]
theorem eC {k u:Nat} {s:Sto} (h:okS k u s):0<=s.floor∧s.floor<=1099511627776:=by
 have:=h.len;unfold Sto.floor;split
 ·omega
 ·rename_i g r he;exact(h.seg g (by rw[he];simp)).1
def cI (s:Sto):Txt:=if s.floor=0 then[] else(bS s.disk.files (aH s.floor)).1
theorem DU {k u:Nat} (s:Sto) (h:okS k u s) (hk:k<=800000):call 43 [.agg s.l] []=some (vs (cI s),[]):=by
 have hf:=lP s;have hn:=Ec (eC h);have hr:=nI s.disk (Nat.le_trans h.dsk.len (by omega)) h.dsk.srt (aH s.floor)
 have e:cI s=if s.floor=0 then[] else(bS s.disk.files (aH s.floor)).1:=rfl
 rw[e];generalize s.floor=fl at *;generalize aH fl=N at *;generalize bS s.disk.files N=rf at *;have hcell:s.l=[.d (.l (s.disk.files.map Fil.enc)),zI s.disk.cap,zB s.disk.armed,zI s.disk.left,zB s.disk.down,zI s.ver,.d (.l (s.segs.map Seg.enc)),zI s.next,zI s.sure,zI s.size,zW s.sum]:=rfl;have hd:s.disk.l=[.d (.l (s.disk.files.map Fil.enc)),zI s.disk.cap,zB s.disk.armed,zI s.disk.left,zB s.disk.down]:=rfl;apply ae TY rfl;rw[hcell] at hf ⊢;rw[hd] at hr;by_cases c:fl=0
 ·rw[if_pos c];refine bC ?_ QG.eq_1 hf c;try simp[trim]
 ·rw[if_neg c];have c':(fl == 0)=false:=by simpa using c
  refine bC ?_ QG.eq_1 hf hn hr c';try simp[trim]
theorem Hk (t:List UInt8) (h:(gt t).2=0):whyF (gt t).1=0:=by
 unfold gt at *;split at h
 ·exact absurd h (by decide)
 ·split at h
  ·exact absurd h (by decide)
  ·rename_i n k _ _ m j _;by_cases c:whyF ⟨n,m,t.drop (k+j)⟩=0
   ·simp only[if_pos c];exact c
   ·simp only[if_neg c] at h;exact absurd h c
theorem sC (s:List UInt8):∀ (f a:Nat) (b:Int),∀ x∈(bA f s a b).1,whyF x.1=0
 | 0,a,b,x,hx=>by simp[bA] at hx
 | f+1,a,b,x,hx=>by
  by_cases ha:a<s.length
  ·obtain⟨⟨t,n,e⟩,hn⟩:∃ y,fY s a=y:=⟨_,rfl⟩;by_cases he:e=0
   ·subst he;by_cases hg:(gt t).2=0
    ·by_cases hb:(gt t).1.at_=b
     ·rw[dL ha hn hg hb] at hx;rcases List.mem_cons.1 hx with rfl|hx
      ·exact Hk t hg
      ·exact sC s f n (b+1) x hx
     ·rw[fX ha hn hg hb] at hx;cases hx
    ·rw[f8 ha hn hg] at hx;cases hx
   ·rw[eV ha hn he] at hx;cases hx
  ·rw[eB (Nat.not_lt.1 ha)] at hx;cases hx
theorem zu (s:List UInt8) (b:Int):∀ x∈(fb s b).1,whyF x.1=0:=by
 intro x hx;unfold fb at hx;split at hx
 ·exact sC s _ _ _ x hx
 ·cases hx
theorem v5 {r:Rec} (h:whyF r=0):r.da.length<=64:=by
 unfold whyF at h;split at h
 ·split at h
  ·assumption
  ·exact absurd h (by decide)
 ·exact absurd h (by decide)
def jt (s:Sto) (off:Int):List UInt8:=if off<0∨s.next<=off then[] else match (aM s.scans).find? (fun r=>decide (r.at_=off)) with
 | some r=>r.da
 | none=>[]
theorem Jj (s:Sto) (off:Int):∃ a b e,lG s off=.tup [(true,[zI a,zI b,zS (jt s off)]),(false,[zI e])]:=by
 unfold lG jt;split
 ·exact⟨_,_,_,rfl⟩
 ·unfold jr;cases (aM s.scans).find? (fun r=>decide (r.at_=off)) with
  | none=>exact⟨_,_,_,rfl⟩
  | some r=>exact⟨r.at_,r.ti,0,rfl⟩
theorem yf (s:Sto) (off:Int):(jt s off).length<=64:=by
 unfold jt;split
 ·simp
 ·cases hf:(aM s.scans).find? (fun r=>decide (r.at_=off)) with
  | none=>simp
  | some r =>
   have hm:=List.mem_of_find?_eq_some hf;simp only[aM,Sto.scans,List.flatMap_map,List.mem_flatMap,List.mem_map] at hm;obtain⟨g,_,x,hx,rfl⟩:=hm;exact v5 (zu _ _ x hx)
theorem C7 (P Q:Pr->Bool) (h:∀ p,P p=true->Q p=false):∀ l:List Pr,(l.takeWhile P).length+(l.filter Q).length<=l.length
 | []=>by simp
 | x::r=>by
  rw[List.takeWhile_cons,List.filter_cons];by_cases hp:P x=true
  ·have hq:=h x hp;have:=C7 P Q h r;simp[hp,hq];omega
  ·have h2:(r.filter Q).length<=r.length:=List.length_filter_le _ _;rw[if_neg hp];by_cases hq:Q x=true <;> simp[hq] <;> omega
theorem step_len (l:List Pr) (d:List UInt8):(cH l d).length<=l.length+1:=by
 cases d with
 | nil=>simp[cH]
 | cons c r =>
  have h1:=C7 (fun p=>decide (p.key<(c.toNat:Int))) (fun p=>decide ((c.toNat:Int)<p.key)) (fun p hp=>by simp at hp ⊢;omega) l
  simp only[cH,zA];split <;> simp at h1 ⊢ <;> omega
def okP (l:List Pr):Prop:=∀ p∈l,(0<=p.key∧p.key<256)∧p.val.length<=64
theorem step_ok {l:List Pr} (h:okP l) {d:List UInt8} (hd:d.length<=64):okP (cH l d):=by
 cases d with
 | nil=>exact h
 | cons c r =>
  intro p hp;simp only[cH,zX] at hp;rcases hp with(hp|hp)|hp
  ·exact h p ((List.takeWhile_sublist _).subset hp)
  ·split at hp
   ·cases hp
   ·rw[zV] at hp;subst hp;have:=UInt8.toNat_lt c;simp at hd;exact⟨⟨by simp only[];omega,by simp only[];omega⟩,by simp only[];omega⟩
  ·exact h p (List.mem_filter.1 hp).1
theorem CF (s:List UInt8):∀ (n a:Nat) (out:List Pr) (r:List Pr × Nat),dI s n a out=some r->(∀ p∈out,0<=p.key∧p.key<256)->(∀ p∈r.1,0<=p.key∧p.key<256)∧r.1.length=out.length+n
 | 0,a,out,r,h,ho=>by simp only[dI] at h;cases h;exact⟨ho,rfl⟩
 | n+1,a,out,r,h,ho=>by
  simp only[dI] at h;split at h
  ·rename_i p b hp;have hk:0<=p.key∧p.key<256:=by
    unfold kJ at hp;split at hp
    ·split at hp
     ·cases hp
     ·cases hp;have:=UInt8.toNat_lt (s[a]?.getD 0);exact⟨by simp only[];omega,by simp only[];omega⟩
    ·cases hp
   have:=CF s n b (out++[p]) r h (fun q hq=>by
    rcases zX.1 hq with hq|hq
    ·exact ho q hq
    ·rw[zV.1 hq];exact hk)
   refine⟨this.1,?_⟩;rw[this.2];simp;omega
  ·cases h
theorem EC {l:List Pr} (h:dh l=true):∀ p∈l,p.val.length<=64:=by
 intro p hp;obtain⟨i,hi,rfl⟩:=zJ hp;have:=(List.all_eq_true.1 h) i (by simpa using hi)
 simp only[nN,zE hi,oW,Bool.and_eq_true,decide_eq_true_eq] at this;omega
theorem pw {s:List UInt8} {l:List Pr} (h:aR s=some l):okP l∧l.length<=256:=by
 unfold aR at h;split at h
 ·rename_i n k _;split at h
  ·cases h
  ·rename_i hn;unfold hU at h;split at h
   ·rename_i out a ho;split at h
    ·rename_i hc;cases h;have:=CF s n k [] _ ho (fun p hp=>by cases hp)
     have hv:=EC hc.2;refine⟨fun p hp=>⟨this.1 p hp,hv p hp⟩,?_⟩
     rw[this.2];simp;omega
    ·cases h
   ·cases h
 ·cases h
def qg (s:Sto):Nat->Int->List Pr->List Pr
 | 0,_,l=>l
 | n+1,i,l=>qg s n (i+1) (cH l (jt s i))
def bB (s:Sto) (off:Int):List Pr:=qg s (off-s.floor).toNat s.floor ((aR (cI s)).getD [])
theorem In (s:Sto):∀ (n:Nat) (i:Int) (l:List Pr),okP l->okP (qg s n i l)∧(qg s n i l).length<=l.length+n
 | 0,i,l,h=>⟨h,by simp[qg]⟩
 | n+1,i,l,h=>by
  have h1:=In s n (i+1) (cH l (jt s i)) (step_ok h (yf s i));have h2:=step_len l (jt s i);exact⟨h1.1,by simp only[qg];omega⟩
theorem yo (s:Sto) (off:Int):okP (bB s off)∧(bB s off).length<=256+(off-s.floor).toNat:=by
 have h:okP ((aR (cI s)).getD [])∧((aR (cI s)).getD []).length<=256:=by
  cases hp:aR (cI s) with
  | none=>exact⟨fun p hp=>(by simp at hp),by simp⟩
  | some l=>exact pw hp
 have:=In s (off-s.floor).toNat s.floor _ h.1;exact⟨this.1,by unfold bB;omega⟩
theorem Bw {k u:Nat} (s:Sto) (h:okS k u s) (hk:k<=800000) (hu:u<=1000000) (off:Int) (ho:off<=s.floor+100000):call 20 [.agg s.l,vi off] []=some (vl ((bB s off).map Pr.enc),[]):=by
 have hf:=lP s;have hfb:=eC h;have hs:=DU s h hk;have hsl:(cI s).length<=1000000:=by
  unfold cI;split
  ·simp
  ·exact Nat.le_trans (iR _ _) (Nat.le_trans h.dsk.used hu)
 have hp:=DG (cI s) (by omega)
 have hpv:∃ ok:Bool,cQ (aR (cI s))=.tup [(false,[.d (.l (((aR (cI s)).getD []).map Pr.enc))]),(false,[zB ok])]:=by
  cases aR (cI s) with
  | none=>exact⟨false,rfl⟩
  | some l=>exact⟨true,rfl⟩
 have hl0:((aR (cI s)).getD []).length<=256:=by
  cases hp:aR (cI s) with
  | none=>simp
  | some l=>exact(pw hp).2
 have hg:=fun i=>uD s h hk hu i
 obtain⟨Z,hZ⟩:∃ Z:V,Z=vl ((bB s off).map Pr.enc):=⟨_,rfl⟩;rw[<- hZ];have hZ':Z=vl ((qg s (off-s.floor).toNat s.floor ((aR (cI s)).getD [])).map Pr.enc):=hZ;clear hZ;obtain⟨ok,hpv⟩:=hpv;rw[hpv] at hp;generalize (aR (cI s)).getD []=l0 at *;generalize cI s=sn at *;have hcell:s.l=[.d (.l (s.disk.files.map Fil.enc)),zI s.disk.cap,zB s.disk.armed,zI s.disk.left,zB s.disk.down,zI s.ver,.d (.l (s.segs.map Seg.enc)),zI s.next,zI s.sure,zI s.size,zW s.sum]:=rfl;apply ae TX rfl;rw[hcell] at hf hs hg ⊢;obtain⟨fl,hfl⟩:∃ fl,fl=s.floor:=⟨_,rfl⟩;rw[<- hfl] at hf hfb hZ' ho;refine bC ?_ QT.eq_1 hf hs hp;refine ax (m:=0) (σ:=Int × List Pr) (fun t=>(off-t.1).toNat) (fun t=>fl<=t.1∧t.2.length<=256+(t.1-fl).toNat∧Z=vl ((qg s (off-t.1).toNat t.1 t.2).map Pr.enc)) (fun t=>[vi off,V.one (.p 0 0),vl (t.2.map Pr.enc),vi t.1])
  (fun _=>[.cells [.d (.l (s.disk.files.map Fil.enc)),zI s.disk.cap,zB s.disk.armed,zI s.disk.left,zB s.disk.down,zI s.ver,.d (.l (s.segs.map Seg.enc)),zI s.next,zI s.sure,zI s.size,zW s.sum]]) (fun _=>(Z,[])) ?_ (fl,l0) ⟨Int.le_refl _,by simp only[];omega,hZ'⟩ _ _ bO
 rintro⟨i,l⟩ ⟨h1,h2,h3⟩ R hR;simp only at h1 h2 h3;by_cases hi:i<off
 ·obtain⟨n,hn⟩:∃ n,(off-i).toNat=n+1:=⟨(off-i).toNat-1,by omega⟩
  rw[hn,qg] at h3;obtain⟨a,b,e,he⟩:=Jj s i;have hgi:=hg i;rw[he] at hgi;have hst:=step_ref l (by omega) (jt s i) (Nat.le_trans (yf s i) (by decide))
  have hsl:=step_len l (jt s i);have hR':=hR (i+1,cH l (jt s i)) (by simp only[];omega) ⟨by simp only[];omega,by simp only[];omega,by simp only[];rw[show(off-(i+1)).toNat=n by omega];exact h3⟩
  generalize cH l (jt s i)=l1 at *;generalize jt s i=dd at *;refine bC ?_ Hv.eq_1 (zT hi) hgi hst;exact hR' _ _ bO
 ·have e:(off-i).toNat=0:=by omega
  rw[e,qg] at h3;rw[h3];refine bC ?_ Hv.eq_1 QT.eq_1 (zF hi);try simp[trim]
def cB (x:Txt):Int:=(((cr 0#32 x).toNat:Nat):Int)
theorem pd (x:Txt):0<=cB x∧cB x<4294967296:=by
 have:=(cr 0#32 x).isLt;unfold cB;omega
def nQ (d:Dsk) (n x:Txt) (m:Man):Dsk × Int :=
 let a:=bL n (d,0)
 let b:=if a.2=0 then cO n (fO n x a) else a
 let c:=ga n b
 if c.2=0 then cO n (bT m c) else c
def C6 (l:List Seg) (s:Dsk × Int):Dsk × Int:=l.foldl (fun s g=>dF (fileN g.base) s) s
def Bg (s:Sto) (k:Nat) (q:Dsk × Int):Dsk × Int :=
 let r:=C6 (s.segs.take k) q
 if r.2=0∧0<s.floor then dF (aH s.floor) r else r
def aW (l:List Seg) (k:Nat):Int:=match l[k]? with|some g=>g.base|none=>0
def eK (s:Sto) (k:Nat):Sto:={ s with ver:=s.ver+1,segs:=s.segs.drop k,size:=((aZ (bB s (aW s.segs k))).length:Nat),sum:=cB (aZ (bB s (aW s.segs k))) }
def tv (s:Sto) (k:Nat):Sto × Int :=
 let e:=nQ s.disk (aH (aW s.segs k)) (aZ (bB s (aW s.segs k))) (eK s k).man
 if e.2≠0 then({ s with disk:=e.1 },e.2) else({ eK s k with disk:=(Bg s k e).1 },(Bg s k e).2)
def cM (s:Sto) (keep count:Int):Sto × Int:=if eD s.segs keep count=0 then(s,0) else tv s (eD s.segs keep count)
theorem wd {k u:Nat}:∀ (l:List Seg) (s:Dsk × Int),okN k u s.1->okN k u (C6 l s).1
 | [],s,h=>h
 | g::l,s,h=>wd l _ (dZ h _)
theorem Ny {k u:Nat} {s:Sto} {n:Nat} {q:Dsk × Int} (h:okN k u q.1):okN k u (Bg s n q).1:=by
 unfold Bg;simp only[];split
 ·exact dZ (wd _ _ h) _
 ·exact wd _ _ h
theorem GX {k u:Nat} {d:Dsk} (h:okN k u d) (n x:Txt) (m:Man):okN (k+2) (u+x.length+800) (nQ d n x m).1:=by
 unfold nQ;simp only[];have h1:=eA (s:=(d,0)) h n;have h2:okN (k+1) (u+x.length) (if(bL n (d,0)).2=0 then cO n (fO n x (bL n (d,0))) else bL n (d,0)).1:=by
  split
  ·exact lx (iY h1 n x) n
  ·exact h1.up (by omega) (by omega)
 generalize (if(bL n (d,0)).2=0 then cO n (fO n x (bL n (d,0))) else bL n (d,0))=b at *
 have h3:=lu h2 n;split
 ·exact lx (ii h3 m) n
 ·exact h3.up (by omega) (by omega)
theorem yT (n:Nat) (h:n<9223372036854775808):(ai n).length<=9:=dD h
theorem pX {l:List Pr} (h:okP l) (hl:l.length<=1000000):(aZ l).length<=9+74*l.length:=by
 have h1:∀ l:List Pr,okP l->(l.flatMap io).length<=74*l.length:=by
  intro l;induction l with
  | nil=>intro _;simp
  | cons p r ih =>
   intro h;have hp:=(h p (by simp)).2
   have hr:=ih (fun q hq=>h q (by simp[hq]))
   have he:=yT p.val.length (by omega)
   rw[List.flatMap_cons,zA];simp only[io,List.length_cons,zA];omega
 have h2:=h1 l h;have h3:=yT l.length (by omega)
 unfold aZ;rw[zA];omega
theorem iz {l:List Seg} {k:Nat} (h:k<l.length):l[k]?=some l[k]∧aW l k=l[k].base:=by
 have e:l[k]?=some l[k]:=zE h;exact⟨e,by unfold aW;rw[e]⟩
theorem wl {k u:Nat} {s:Sto} (h:okS k u s) {n:Nat} (hn:n<s.segs.length):0<=aW s.segs n∧aW s.segs n<=1099511627776:=by
 rw[(iz hn).2];exact(h.seg _ (zN hn)).1
theorem Ib {k u:Nat} {s:Sto} (h:okS k u s) {n:Nat} (hn:n<s.segs.length) (hb:aW s.segs n<=s.floor+40):okS (k+2) (u+23000) (tv s n).1:=by
 have hs:=yo s (aW s.segs n);have hlen:=pX hs.1 (by omega)
 have hl:=GX h.dsk (aH (aW s.segs n)) (aZ (bB s (aW s.segs n))) (eK s n).man;have hl':=hl.up (k':=k+2) (u':=u+23000) (Nat.le_refl _) (by omega)
 unfold tv;simp only[];split
 ·exact⟨hl',h.len,fun g hg=>by have:=h.seg g hg;omega,h.next,by have:=h.ver;simp only[];omega,h.sum⟩
 ·refine⟨Ny hl',?_,fun g hg=>?_,h.next,?_,pd _⟩
  ·show 1<=(s.segs.drop n).length∧(s.segs.drop n).length<=64;have:=h.len;simp;omega
  ·have:=h.seg g (List.mem_of_mem_drop hg);omega
  ·show 0<=s.ver+1∧s.ver+1<=((u+23000:Nat):Int);have:=h.ver;omega
abbrev FM:=Txt->Option (Txt × Int)
def fm (l:List Fil):FM:=fun n=>(l.find? fun f=>decide (f.name=n)).map fun f=>(f.data,f.sure)
def up (F:FM) (n:Txt) (v:Option (Txt × Int)):FM:=fun k=>if k=n then v else F k
theorem cU (F:FM) (n:Txt) (v:Option (Txt × Int)):up F n v n=v:=if_pos rfl
theorem bn (F:FM) {n k:Txt} (v:Option (Txt × Int)) (h:k≠n):up F n v k=F k:=if_neg h
theorem jo (F:FM) (n:Txt) (v w:Option (Txt × Int)):up (up F n v) n w=up F n w:=by
 funext k;unfold up;split <;> rfl
theorem lF {F:FM} {n:Txt} {v:Option (Txt × Int)} (h:F n=v):up F n v=F:=by
 funext k;unfold up;split
 ·rename_i e;rw[e,h]
 ·rfl
theorem wZ {l:List Fil} {n:Txt}:fm l n=none↔∀ f∈l,f.name≠n:=by
 unfold fm;rw[Option.map_eq_none_iff,List.find?_eq_none];simp
theorem AD (A:List Fil) (x:Fil) (B:List Fil) (h:∀ a∈A,a.name≠x.name):fm (A++x::B)=up (fm (A++B)) x.name (some (x.data,x.sure)):=by
 funext k
 unfold fm up;simp only[List.find?_append,List.find?_cons];by_cases c:k=x.name
 ·have hn:A.find? (fun f=>decide (f.name=k))=none:=by
   rw[List.find?_eq_none];intro a ha;simpa[c] using h a ha
  rw[if_pos c,hn];simp[c]
 ·rw[if_neg c];have:decide (x.name=k)=false:=by simpa using fun e=>c e.symm
  rw[this]
theorem Ch {l:List Fil} (hs:srt l) {i:Nat} (hi:i<l.length):(∀ a∈l.take i,a.name≠l[i].name)∧(∀ b∈l.drop (i+1),b.name≠l[i].name):=by
 constructor
 ·intro a ha;obtain⟨j,hj,rfl⟩:=zJ ha;rw[zQ] at hj;rw[List.getElem_take];exact yR ((List.pairwise_iff_getElem.1 hs) j i (by omega) hi (by omega))
 ·intro b hb;obtain⟨j,hj,rfl⟩:=zJ hb;rw[zH] at hj;rw[List.getElem_drop];exact fun e=>yR ((List.pairwise_iff_getElem.1 hs) i (i+1+j) hi (by omega) (by omega)) e.symm
theorem K6 (l:List Fil) {i:Nat} (hi:i<l.length):l=l.take i++l[i]::l.drop (i+1):=by
 conv=>lhs;rw[<- zY i l,zD hi]
theorem qc {l:List Fil} (hs:srt l) {i:Nat} (hi:i<l.length):fm l=up (fm (fi l i)) l[i].name (some (l[i].data,l[i].sure))∧fm (fi l i) l[i].name=none:=by
 have h:=Ch hs hi;constructor
 ·conv=>lhs;rw[K6 l hi]
  exact AD _ _ _ h.1
 ·rw[wZ];intro f hf;rcases zX.1 hf with hf|hf
  ·exact h.1 f hf
  ·exact h.2 f hf
theorem Ge {l:List Fil} (hs:srt l) {i:Nat} (hi:i<l.length):fm (fi l i)=up (fm l) l[i].name none:=by
 have h:=qc hs hi;rw[h.1,jo,lF h.2]
theorem FJ {l:List Fil} (hs:srt l) {i:Nat} (hi:i<l.length) (g:Fil) (hg:g.name=l[i].name):fm (l.set i g)=up (fm l) l[i].name (some (g.data,g.sure)):=by
 have h:=Ch hs hi;have e:l.set i g=l.take i++g::l.drop (i+1):=by rw[List.set_eq_take_append_cons_drop,if_pos hi]
 rw[e,AD _ _ _ (fun a ha=>by rw[hg];exact h.1 a ha),hg]
 have h2:=qc hs hi;rw[h2.1,jo];try rfl
theorem mc {l:List Fil} (hs:srt l) (n:Txt):bM l n=(fm l n).isSome:=by
 cases h:bM l n with
 | true =>
  obtain⟨hp,he⟩:=ch h;rw[(qc hs hp).1,he,cU];rfl
 | false =>
  rw[wZ.2 (nb hs h)];rfl
theorem wJ {l:List Fil} (hs:srt l) {n:Txt} {v:Txt × Int} (h:fm l n=some v):∃ hp:ay l n<l.length,l[ay l n].name=n∧(l[ay l n].data,l[ay l n].sure)=v:=by
 have h1:bM l n=true:=by rw[mc hs,h];rfl
 obtain⟨hp,he⟩:=ch h1;refine⟨hp,he,?_⟩;have h2:=(qc hs hp).1;rw[h2,he,cU] at h;exact Option.some.inj h
theorem BZ {l:List Fil} (hs:srt l) (n:Txt):bS l n=match fm l n with|some v=>(v.1,0)|none=>([],7):=by
 cases h:fm l n with
 | some v =>
  obtain⟨hp,he,hv⟩:=wJ hs h;subst hv;unfold bS;rw[zE hp];simp only[if_pos he]
 | none =>
  have h1:bM l n=false:=by rw[mc hs,h];rfl
  unfold bS;unfold bM at h1;split
  ·rename_i f hf;rw[hf] at h1;rw[if_neg (by simpa using h1)]
  ·rfl
theorem lA {l:List Fil} (hs:srt l) (n d:Txt):hasD l n d↔∃ q,fm l n=some (d,q):=by
 constructor
 ·rintro⟨f,hf,rfl,rfl⟩;obtain⟨i,hi,rfl⟩:=zJ hf;exact⟨l[i].sure,by rw[(qc hs hi).1,cU]⟩
 ·rintro⟨q,h⟩;obtain⟨hp,he,hv⟩:=wJ hs h;exact⟨l[ay l n],zN hp,he,congrArg Prod.fst hv⟩
theorem Il {l:List Fil} (hs:srt l) {n:Txt} (d:Txt) (q:Int) (h:fm l n=none):fm (gZ l (ay l n) ⟨n,d,q⟩)=up (fm l) n (some (d,q)):=by
 have h2:=wZ.1 h;unfold gZ;rw[AD _ _ _ (fun a ha=>h2 a (zZ ha)),zY]
theorem Mc {l:List Fil} (hs:srt l) (f:Fil):fm (jv l f)=up (fm l) f.name (some (f.data,f.sure)):=by
 unfold jv;split
 ·rename_i h;obtain⟨hp,he⟩:=ch h;rw[FJ hs hp f he.symm,he]
 ·rename_i h;have h1:fm l f.name=none:=by
   cases hf:fm l f.name with
   | none=>rfl
   | some v=>exact absurd (by rw[mc hs,hf];rfl) h
  obtain⟨n,d,q⟩:=f;exact Il hs d q h1
structure Dk (d d':Dsk):Prop where
 cap:d'.cap=d.cap
 armed:d'.armed=d.armed
 down:d.down=true->d'=d
 idle:d.armed=false->d.down=false->d'.down=false∧d'.left=d.left
theorem Dk.refl (d:Dsk):Dk d d:=⟨rfl,rfl,fun _=>rfl,fun _ h=>⟨h,rfl⟩⟩
theorem Dk.trans {a b c:Dsk} (h1:Dk a b) (h2:Dk b c):Dk a c :=
  ⟨h2.cap.trans h1.cap,h2.armed.trans h1.armed,fun h=>by have e:=h1.down h;rw[h2.down (by rw[e];exact h),e],
   fun ha hd=>by
    have e1:=h1.idle ha hd
    have e2:=h2.idle (h1.armed.trans ha) e1.1
    exact⟨e2.1,e2.2.trans e1.2⟩⟩
def Out (d:Dsk) (r:Dsk × Int) (X:List Txt) (G:FM) (G9:Option FM):Prop :=
 Dk d r.1∧srt r.1.files∧((r.2=0∧r.1.down=false∧fm r.1.files=G)∨(∃ g,G9=some g∧r.2=9∧r.1.down=false∧fm r.1.files=g)∨(r.2=10∧r.1.down=true∧∀ n,n ∉ X->fm r.1.files n=fm d.files n))
theorem Out.up9 {d:Dsk} {r:Dsk × Int} {X:List Txt} {G:FM} (h:Out d r X G none) (g:Option FM):Out d r X G g:=by
 refine⟨h.1,h.2.1,?_⟩;rcases h.2.2 with h|⟨_,h,_⟩|h
 ·exact .inl h
 ·cases h
 ·exact .inr (.inr h)
theorem Out.upX {d:Dsk} {r:Dsk × Int} {X Y:List Txt} {G:FM} {g:Option FM} (h:Out d r X G g) (hx:∀ n∈X,n∈Y):Out d r Y G g:=by
 refine⟨h.1,h.2.1,?_⟩;rcases h.2.2 with h|h|h
 ·exact .inl h
 ·exact .inr (.inl h)
 ·exact .inr (.inr ⟨h.1,h.2.1,fun n hn=>h.2.2 n (fun hm=>hn (hx n hm))⟩)
theorem oT {d:Dsk} (hs:srt d.files) {r:List Fil × Int} {G:FM} (h0:r.2=0) (h1:srt r.1) (h2:fm r.1=G):Out d (aj d r) [] G none:=by
 unfold aj;split
 ·rename_i hd;exact⟨Dk.refl d,hs,.inr (.inr ⟨rfl,hd,fun _ _=>rfl⟩)⟩
 ·rename_i hd;have hd:d.down=false:=by simpa using hd
  rw[if_neg (by simp[h0])]
  split
  ·rename_i ha;split
   ·exact⟨⟨rfl,rfl,fun h=>(by rw[hd] at h;cases h),fun h _=>(by rw[ha] at h;cases h)⟩,hs,.inr (.inr ⟨rfl,rfl,fun _ _=>rfl⟩)⟩
   ·exact⟨⟨rfl,rfl,fun h=>(by rw[hd] at h;cases h),fun h _=>(by rw[ha] at h;cases h)⟩,h1,.inl ⟨rfl,hd,h2⟩⟩
  ·exact⟨⟨rfl,rfl,fun h=>(by rw[hd] at h;cases h),fun _ h=>⟨h,rfl⟩⟩,h1,.inl ⟨rfl,hd,h2⟩⟩
theorem mO {d:Dsk} (hs:srt d.files) {n:Txt} (hn:dx n=true) (h:fm d.files n=none):Out d (aj d (bm d.files n)) [] (up (fm d.files) n (some ([],0))) none:=by
 have hf:bM d.files n=false:=by rw[mc hs,h];rfl
 have e:bm d.files n=(gZ d.files (ay d.files n) ⟨n,[],0⟩,0):=by unfold bm;rw[if_pos hn,hf];rfl
 rw[e];exact oT hs rfl (w5 hs ⟨n,[],0⟩ hf) (Il hs [] 0 h)
theorem HB {l:List Fil} (hs:srt l) {n:Txt} {v:Txt × Int} (h:fm l n=some v) (f:Fil->Fil) (hf:∀ x,(f x).name=x.name) :
  srt (rG l (ay l n) f)∧fm (rG l (ay l n) f)=up (fm l) n (some ((f ⟨n,v.1,v.2⟩).data,(f ⟨n,v.1,v.2⟩).sure)):=by
 obtain⟨hp,he,hv⟩:=wJ hs h;refine⟨mR (pL l _ f hf) hs,?_⟩;have e2:l[ay l n]=⟨n,v.1,v.2⟩:=by
  generalize l[ay l n]=x at *;obtain⟨a,b,c⟩:=x;simp only at he hv;subst he hv;try rfl
 rw[j6 hp,FJ hs hp _ (by rw[hf]),he,e2]
theorem rQ {d:Dsk} (hs:srt d.files) {n:Txt} (x:Txt) {v:Txt × Int} (h:fm d.files n=some v):Out d (aj d (bK d.files d.cap n x)) [] (up (fm d.files) n (some (v.1++x,v.2))) (some (fm d.files)):=by
 have hf:bM d.files n=true:=by rw[mc hs,h];rfl
 by_cases c:0<d.cap∧d.cap-(usedF d.files:Nat)<x.length
 ·have e:bK d.files d.cap n x=([],9):=by unfold bK;rw[if_pos hf,if_pos c]
  rw[e];unfold aj;split
  ·rename_i hd;exact⟨Dk.refl d,hs,.inr (.inr ⟨rfl,hd,fun _ _=>rfl⟩)⟩
  ·rename_i hd;rw[if_pos (by decide)]
   exact⟨Dk.refl d,hs,.inr (.inl ⟨_,rfl,rfl,by simpa using hd,rfl⟩)⟩
 ·have e:bK d.files d.cap n x=(rG d.files (ay d.files n) (fun f=>{ f with data:=f.data++x }),0):=by unfold bK;rw[if_pos hf,if_neg c]
  have hu:=HB hs h (fun f=>{ f with data:=f.data++x }) (fun _=>rfl)
  rw[e];exact(oT hs rfl hu.1 hu.2).up9 _
theorem oq {d:Dsk} (hs:srt d.files) {n:Txt} {v:Txt × Int} (h:fm d.files n=some v):Out d (aj d (ct d.files n)) [] (up (fm d.files) n (some (v.1,(v.1.length:Nat)))) none:=by
 have hf:bM d.files n=true:=by rw[mc hs,h];rfl
 have e:ct d.files n=(rG d.files (ay d.files n) (fun f=>{ f with sure:=f.data.length }),0):=by unfold ct;rw[if_pos hf]
 have hu:=HB hs h (fun f=>{ f with sure:=(f.data.length:Nat) }) (fun _=>rfl)
 rw[e];exact oT hs rfl hu.1 hu.2
theorem wQ {d:Dsk} (hs:srt d.files) {n:Txt} {v:Txt × Int} (h:fm d.files n=some v):Out d (aj d (bP d.files n)) [] (up (fm d.files) n none) none:=by
 have hf:bM d.files n=true:=by rw[mc hs,h];rfl
 have e:bP d.files n=(fi d.files (ay d.files n),0):=by unfold bP;rw[if_pos hf]
 obtain⟨hp,he⟩:=ch hf;rw[e];exact oT hs rfl (kO hs _) (by rw[Ge hs hp,he])
theorem Jh {d:Dsk} (hs:srt d.files) {a b:Txt} (hb:dx b=true) {v:Txt × Int} (h:fm d.files a=some v):Out d (aj d (iC d.files a b)) [] (up (up (fm d.files) a none) b (some v)) none:=by
 have hf:bM d.files a=true:=by rw[mc hs,h];rfl
 obtain⟨hp,he,hv⟩:=wJ hs h;have e:iC d.files a b=(jv (fi d.files (ay d.files a)) (fo d.files (ay d.files a) b),0):=by unfold iC;rw[if_pos hf,if_pos hb]
 rw[e];refine oT hs rfl (Cw (kO hs _) _) ?_;have e2:fo d.files (ay d.files a) b={ d.files[ay d.files a] with name:=b }:=by unfold fo;rw[zE hp]
 rw[Mc (kO hs _),Ge hs hp,he,e2,<- hv]
theorem Out.seq {d:Dsk} {r1 r2:Dsk × Int} {X X1 X2:List Txt} {G1 G2:FM} {g g1 g2:Option FM} (h1:Out d r1 X1 G1 g1) (h2:r1.2=0->r1.1.down=false->fm r1.1.files=G1->srt r1.1.files->Out r1.1 r2 X2 G2 g2)
  (hG:∀ n,n ∉ X->G1 n=fm d.files n) (hx1:∀ n∈X1,n∈X) (hx2:∀ n∈X2,n∈X) (hg1:∀ q,g1=some q->g=some q) (hg2:∀ q,g2=some q->g=some q):Out d (if r1.2=0 then r2 else r1) X G2 g:=by
 obtain⟨k1,s1,o1⟩:=h1;rcases o1 with⟨e,hd,hf⟩|⟨q,hq,e,hd,hf⟩|⟨e,hd,hf⟩
 ·rw[if_pos e];obtain⟨k2,s2,o2⟩:=h2 e hd hf s1;refine⟨k1.trans k2,s2,?_⟩;rcases o2 with o2|⟨q,hq,o2⟩|⟨e2,hd2,hf2⟩
  ·exact .inl o2
  ·exact .inr (.inl ⟨q,hg2 q hq,o2⟩)
  ·refine .inr (.inr ⟨e2,hd2,fun n hn=>?_⟩)
   rw[hf2 n (fun hm=>hn (hx2 n hm)),hf]
   exact hG n hn
 ·rw[if_neg (by rw[e];decide)]
  exact⟨k1,s1,.inr (.inl ⟨q,hg1 q hq,e,hd,hf⟩)⟩
 ·rw[if_neg (by rw[e];decide)]
  exact⟨k1,s1,.inr (.inr ⟨e,hd,fun n hn=>hf n (fun hm=>hn (hx1 n hm))⟩)⟩
theorem Out.unl {d:Dsk} {r:Dsk × Int} {X:List Txt} {G g:FM} {n:Txt} {v:Txt × Int} (h:Out d r X G (some g)) (hn:g n=some v) (hg:∀ k,k ∉ X->g k=fm d.files k):Out d (cO n r) X G (some (up g n none)):=by
 obtain⟨k1,s1,o1⟩:=h;obtain⟨r1,e⟩:=r;simp only at k1 s1 o1;rcases o1 with⟨rfl,hd,hf⟩|⟨q,hq,rfl,hd,hf⟩|⟨rfl,hd,hf⟩
 ·have:cO n (r1,0)=(r1,0):=by unfold cO;rw[if_pos (by simp)]
  rw[this];exact⟨k1,s1,.inl ⟨rfl,hd,hf⟩⟩
 ·cases hq;have e1:dF n (r1,0)=aj r1 (bP r1.files n):=bv _ _;have hdl:=wQ s1 (n:=n) (v:=v) (by rw[hf];exact hn)
  unfold cO;rw[if_neg (by simp)]
  simp only[e1];generalize aj r1 (bP r1.files n)=w at *;obtain⟨k2,s2,o2⟩:=hdl;rcases o2 with⟨e2,hd2,hf2⟩|⟨q,hq,_⟩|⟨e2,hd2,hf2⟩
  ·rw[if_pos e2];exact⟨k1.trans k2,s2,.inr (.inl ⟨_,rfl,rfl,hd2,by rw[hf2,hf]⟩)⟩
  ·cases hq
  ·rw[if_neg (by rw[e2];decide)]
   refine⟨k1.trans k2,s2,.inr (.inr ⟨e2,hd2,fun k hk=>?_⟩)⟩
   rw[hf2 k (by simp),hf]
   exact hg k hk
 ·have:cO n (r1,10)=(r1,10):=by unfold cO;rw[if_pos (by simp)]
  rw[this];exact⟨k1,s1,.inr (.inr ⟨rfl,hd,hf⟩)⟩
def uq (l:List Txt) (s:Dsk × Int):Dsk × Int:=l.foldl (fun s n=>dF n s) s
theorem oH (n:Txt) (l:List Txt) (s:Dsk × Int):uq (n::l) s=uq l (dF n s):=rfl
theorem wY (l:List Txt) (s:Dsk × Int) (h:s.2≠0):uq l s=s:=by
 induction l with
 | nil=>rfl
 | cons n l ih=>rw[oH,show dF n s=s from gC h _];exact ih
def jW (s:Sto) (k:Nat):List Txt:=(s.segs.take k).map (fun g=>fileN g.base)++(if 0<s.floor then[aH s.floor] else[])
theorem Ki (l:List Seg) (q:Dsk × Int):C6 l q=uq (l.map fun g=>fileN g.base) q:=by
 unfold C6 uq;rw[List.foldl_map]
theorem AK (s:Sto) (k:Nat) (q:Dsk × Int):Bg s k q=uq (jW s k) q:=by
 unfold Bg jW;simp only[];rw[Ki];unfold uq;rw[List.foldl_append];generalize List.foldl (fun s n=>dF n s) q ((s.segs.take k).map fun g=>fileN g.base)=r
 by_cases c:0<s.floor
 ·rw[if_pos c];by_cases c2:r.2=0
  ·rw[if_pos ⟨c2,c⟩];rfl
  ·rw[if_neg (fun h=>c2 h.1)]
   show r=dF (aH s.floor) r;exact(gC c2 _).symm
 ·rw[if_neg (fun h=>c h.2),if_neg c];rfl
theorem ku {d:Dsk} (h:d.down=true) (r:List Fil × Int):aj d r=(d,10):=by unfold aj;rw[if_pos h]
theorem Out.dn {d:Dsk} (hs:srt d.files) (h:d.down=true) (X:List Txt) (G:FM) (g:Option FM):Out d (d,10) X G g:=⟨Dk.refl d,hs,.inr (.inr ⟨rfl,h,fun _ _=>rfl⟩)⟩
theorem Out.eq {d:Dsk} {r:Dsk × Int} {X:List Txt} {G G':FM} {g g':Option FM} (h:Out d r X G g) (h1:G=G') (h2:g=g'):Out d r X G' g':=h1 ▸ h2 ▸ h
theorem z8 (n:Txt) (h:2<=n.length):n≠[110]:=fun e=>by rw[e] at h;simp at h
theorem gR {r:Dsk × Int} (h:r.2=0):r=(r.1,0):=by rw[<- h]
def manV (m:Man):Option (Txt × Int):=some (cA m,((cA m).length:Nat))
theorem o6 {d:Dsk} (hs:srt d.files) {m:Man} (hm:manB m=true) (hn:d.down=false->fm d.files [110]=none):Out d (bT m (d,0)) [[110]] (up (fm d.files) [109] (manV m)) (some (fm d.files)):=by
 have hp:bF m=(cA m,0):=by unfold bF;rw[if_pos hm]
 by_cases hd:d.down=true
 ·have e:bT m (d,0)=(d,10):=by
   have e1:∀ s:Dsk × Int,s=(d,0)∨s=(d,10)->bL [110] s=(d,10):=by
    rintro s (rfl|rfl)
    ·show aj d _=_;exact ku hd _
    ·rfl
   have e2:(if(bS d.files [110]).2=0 then dF [110] (d,0) else(d,0))=(d,0)∨(if(bS d.files [110]).2=0 then dF [110] (d,0) else(d,0))=(d,10):=by
    split
    ·exact .inr (ku hd _)
    ·exact .inl rfl
   unfold bT;simp only[hp,if_true];rw[e1 _ e2];try rfl
  rw[e];exact .dn hs hd _ _ _
 ·have hn:=hn (by simpa using hd)
  have hr:(bS d.files [110]).2≠0:=by rw[BZ hs,hn];decide
  have e:bT m (d,0)=if(aj d (bm d.files [110])).2=0 then wc [110] [109] (ga [110] (cO [110] (fO [110] (cA m) (aj d (bm d.files [110]))))) else aj d (bm d.files [110]):=by
   have e1:bL [110] (d,0)=aj d (bm d.files [110]):=bv _ _;unfold bT;simp only[hp,if_true,if_neg hr,e1];by_cases h:(aj d (bm d.files [110])).2=0
   ·rw[if_neg (by simp[h]),if_pos h]
   ·rw[if_pos h,if_neg h]
  rw[e];refine Out.seq (mO hs (by decide) hn) (g1:=none) (g2:=some (fm d.files)) ?_ ?_ (by simp) (X2:=[[110]]) (by simp) (by simp) (by simp)
  ·intro h0 hd1 hf1 hs1;rw[gR h0];generalize (aj d (bm d.files [110])).1=d1 at *;have ea:fO [110] (cA m) (d1,0)=aj d1 (bK d1.files d1.cap [110] (cA m)):=bv _ _;rw[ea];have h1:=rQ hs1 (cA m) (n:=[110]) (v:=([],0)) (by rw[hf1,cU])
   have h2:=h1.unl (n:=[110]) (v:=([],0)) (by rw[hf1,cU]) (fun _ _=>rfl)
   have h3:=Out.seq (X:=[[110]]) (g:=some (fm d.files)) h2 (r2:=ga [110] ((cO [110] (aj d1 (bK d1.files d1.cap [110] (cA m)))).1,0)) (X2:=[]) (G2:=up (up (fm d1.files) [110] (some ([]++cA m,0))) [110] (manV m)) (g2:=none)
    (fun h0 hd2 hf2 hs2=>(by
     have:=oq hs2 (n:=[110]) (v:=([]++cA m,0)) (by rw[hf2,cU])
     rw[hf2] at this;exact this)) (fun n hn=>bn _ _ (by simpa using hn)) (by simp) (by simp)
    (fun q hq=>by cases hq;rw[hf1,jo,lF hn]) (by simp)
   have e3:ga [110] (cO [110] (aj d1 (bK d1.files d1.cap [110] (cA m))))=if(cO [110] (aj d1 (bK d1.files d1.cap [110] (cA m)))).2=0 then ga [110] ((cO [110] (aj d1 (bK d1.files d1.cap [110] (cA m)))).1,0) else cO [110] (aj d1 (bK d1.files d1.cap [110] (cA m))):=by
    split
    ·rename_i h;rw[<- gR h]
    ·rename_i h;exact gC h _
   rw[<- e3] at h3;generalize ga [110] (cO [110] (aj d1 (bK d1.files d1.cap [110] (cA m))))=w at *;have h4:=Out.seq (X:=[[110]]) (g:=some (fm d.files)) h3 (r2:=aj w.1 (iC w.1.files [110] [109])) (X2:=[]) (G2:=up (fm d.files) [109] (manV m)) (g2:=none)
    (fun h0 hd2 hf2 hs2=>(by
     have:=Jh hs2 (a:=[110]) (b:=[109]) (by decide) (v:=(cA m,((cA m).length:Nat))) (by rw[hf2,cU];rfl)
     refine this.eq ?_ rfl;rw[hf2,hf1,jo,jo,jo,lF hn];rfl)) (fun n hn=>by rw[jo];exact bn _ _ (by simpa using hn)) (by simp) (by simp) (by simp) (by simp)
   exact h4
  ·intro n hn;exact bn _ _ (by simpa using hn)
theorem wO {d:Dsk} (hs:srt d.files) {n:Txt} {m:Man} (hm:manB m=true) (hnm:dx n=true) (hn2:n≠[110]) (h1:d.down=false->fm d.files [110]=none) (h2:d.down=false->fm d.files n=none) :
  Out d (if(bL n (d,0)).2=0 then cO n (bT m (bL n (d,0))) else bL n (d,0)) [n,[110]] (up (up (fm d.files) n (some ([],0))) [109] (manV m)) (some (fm d.files)):=by
 have e1:bL n (d,0)=aj d (bm d.files n):=bv _ _;rw[e1];by_cases hd:d.down=true
 ·rw[ku hd,if_neg (by simp)]
  exact .dn hs hd _ _ _
 ·have hd:d.down=false:=by simpa using hd
  refine Out.seq (mO hs hnm (h2 hd)) (g1:=none) (g2:=some (fm d.files)) ?_ ?_ (by simp) (X2:=[[110]]) (by simp) (by simp) (by simp)
  ·intro h0 hd1 hf1 hs1;rw[gR h0];generalize (aj d (bm d.files n)).1=d1 at *;have h3:=o6 hs1 hm (fun _=>by rw[hf1,bn _ _ (fun e=>hn2 e.symm)];exact h1 hd)
   have h4:=h3.unl (n:=n) (v:=([],0)) (by rw[hf1,cU]) (fun _ _=>rfl)
   rw[hf1,jo,lF (h2 hd)] at h4;exact h4
  ·intro k hk;exact bn _ _ (fun e=>hk (by simp[e]))
theorem JN {d:Dsk} (hs:srt d.files) {n x:Txt} {m:Man} (hm:manB m=true) (hnm:dx n=true) (hn2:n≠[110]) (h1:d.down=false->fm d.files [110]=none) (h2:d.down=false->fm d.files n=none) :
  Out d (nQ d n x m) [n,[110]] (up (up (fm d.files) n (some (x,(x.length:Nat)))) [109] (manV m)) (some (fm d.files)):=by
 have e1:bL n (d,0)=aj d (bm d.files n):=bv _ _;unfold nQ;simp only[e1];by_cases hd:d.down=true
 ·rw[ku hd];have e2:ga n (d,10)=(d,10):=rfl;simp only[e2];exact .dn hs hd _ _ _
 ·have hd:d.down=false:=by simpa using hd
  have k1:=Out.seq (X:=[n]) (g:=some (fm d.files)) (mO hs hnm (h2 hd)) (r2:=cO n (fO n x (aj d (bm d.files n)))) (G2:=up (fm d.files) n (some (x,0))) (g2:=some (fm d.files)) (X2:=[]) (by
   intro h0 hd1 hf1 hs1;rw[gR h0];generalize (aj d (bm d.files n)).1=d1 at *;have ea:fO n x (d1,0)=aj d1 (bK d1.files d1.cap n x):=bv _ _;rw[ea];have h3:=(rQ hs1 x (n:=n) (v:=([],0)) (by rw[hf1,cU])).unl (n:=n) (v:=([],0)) (by rw[hf1,cU]) (fun _ _=>rfl)
   rw[hf1,jo,jo,lF (h2 hd)] at h3;exact h3) (fun k hk=>bn _ _ (by simpa using hk)) (by simp) (by simp) (by simp) (by simp)
  generalize (if(aj d (bm d.files n)).2=0 then cO n (fO n x (aj d (bm d.files n))) else aj d (bm d.files n))=b at *
  have k2:=Out.seq (X:=[n]) (g:=some (fm d.files)) k1 (r2:=aj b.1 (ct b.1.files n)) (G2:=up (fm d.files) n (some (x,(x.length:Nat)))) (g2:=none) (X2:=[]) (by
   intro h0 hd1 hf1 hs1;have:=oq hs1 (n:=n) (v:=(x,0)) (by rw[hf1,cU])
   rw[hf1,jo] at this;exact this) (fun k hk=>bn _ _ (by simpa using hk)) (by simp) (by simp) (by simp) (by simp)
  have e3:(if b.2=0 then aj b.1 (ct b.1.files n) else b)=ga n b:=rfl
  rw[e3] at k2;generalize ga n b=c at *;refine Out.seq (X:=[n,[110]]) k2 (g:=some (fm d.files)) (g2:=some (fm d.files)) (X2:=[[110]]) ?_ ?_ (by simp) (by simp) (by simp) (by simp)
  ·intro h0 hd1 hf1 hs1;rw[gR h0];have h3:=o6 hs1 hm (fun _=>by rw[hf1,bn _ _ (fun e=>hn2 e.symm)];exact h1 hd)
   have h4:=h3.unl (n:=n) (v:=(x,((x.length:Nat):Int))) (by rw[hf1,cU]) (fun _ _=>rfl)
   rw[hf1,jo,lF (h2 hd)] at h4;exact h4
  ·intro k hk;exact bn _ _ (fun e=>hk (by simp[e]))
def Ap (l:List Txt) (F:FM):FM:=fun k=>if k∈l then none else F k
theorem vS:∀ (l:List Txt) (d:Dsk),srt d.files->l.Nodup->d.down=false->(∀ n∈l,fm d.files n≠none)->Out d (uq l (d,0)) l (Ap l (fm d.files)) none
 | [],d,hs,_,hd,_=>⟨Dk.refl d,hs,.inl ⟨rfl,hd,by funext k;simp[Ap,uq]⟩⟩
 | n::l,d,hs,hn,hd,h=>by
  have hn:=List.nodup_cons.1 hn;obtain⟨v,hv⟩:=Option.ne_none_iff_exists'.1 (h n (by simp))
  have e1:dF n (d,0)=aj d (bP d.files n):=bv _ _;rw[oH,e1];have h1:=wQ hs hv;have e2:uq l (aj d (bP d.files n))=if(aj d (bP d.files n)).2=0 then uq l ((aj d (bP d.files n)).1,0) else aj d (bP d.files n):=by
   split
   ·rename_i h0;rw[<- gR h0]
   ·rename_i h0;exact wY l _ h0
  rw[e2];refine Out.seq h1 (X2:=l) (g2:=none) ?_ ?_ (by simp) (fun k hk=>by simp[hk]) (by simp) (by simp)
  ·intro h0 hd1 hf1 hs1;have h2:=vS l (aj d (bP d.files n)).1 hs1 hn.2 hd1 (fun k hk=>by
    rw[hf1,bn _ _ (fun e=>hn.1 (by rw[<- e];exact hk))];exact h k (by simp[hk]))
   rw[hf1] at h2;refine h2.eq ?_ rfl;funext k
   unfold Ap;by_cases c:k=n
   ·simp[c,hn.1,cU]
   ·by_cases c2:k∈l
    ·rw[if_pos c2,if_pos (List.mem_cons_of_mem _ c2)]
    ·rw[if_neg c2,if_neg (by simp[c,c2]),bn _ _ c]
  ·intro k hk;exact bn _ _ (fun e=>hk (by simp[e]))
structure Act where
 kind:Int
 n:Int
 data:List UInt8
 deriving DecidableEq
def Act.enc (e:Act):List D:=[.i .i64 e.kind,.i .i64 e.n,.s e.data]
def Act.ok (e:Act):Prop:=(-9223372036854775808<=e.kind∧e.kind<9223372036854775808)∧(-9223372036854775808<=e.n∧e.n<9223372036854775808)∧e.data.length<=9223372036854775807
def Act.ty:List Ty:=[.i .i64,.i .i64,.s]
def RM (d:Dsk) (n:Int):Dsk:={ d with armed:=decide (0<=n),left:=if 0<n then n else 0 }
def Sf (d:Dsk) (n:Int):Dsk:={ d with cap:=if 0<n then n else 0 }
variable {f:Int} {S:Txt} {l0:List Pr} {s:Sto} {M:List SR} {g:Seg} {l:List Rec}
theorem dC (n:Int):(aH n).length=14:=by simp[aH,fc]
theorem bV (n:Int):(fileN n).length=14:=by simp[fileN,fc]
theorem cV (a b:Int):aH a≠fileN b:=fun h=>by
 have:(aH a)[0]?=(fileN b)[0]?:=by rw[h]
 simp[aH,fileN,fc] at this
theorem jZ (n:Txt) (h:2<=n.length):n≠[109]:=fun e=>by rw[e] at h;simp at h
theorem A9 {c:UInt8} {a b:Nat} (h:fc c a=fc c b):fc 115 a=fc 115 b:=by
 unfold fc at h ⊢;rw[(List.cons.inj h).2]
theorem qr {a b:Int} (ha:0<=a∧a<=1099511627776) (hb:0<=b∧b<=1099511627776) (h:aH a=aH b):a=b:=dN ha hb (A9 h)
theorem Af (n:Int):dx (fileN n)=true:=by
 have:=bV n;have h2:fileN n≠[]:=fun e=>by rw[e] at this;simp at this
 simp[dx,h2,this]
theorem HR (n:Int):dx (aH n)=true:=by
 have:=dC n;have h2:aH n≠[]:=fun e=>by rw[e] at this;simp at this
 simp[dx,h2,this]
def rel (f:Int) (s:Sto) (n:Txt):Prop:=n=[109]∨(∃ g∈s.segs,n=fileN g.base)∨(0<f∧n=aH f)
theorem mD (f:Int) (s:Sto):¬ rel f s [110]:=by
 rintro(h|⟨g,_,h⟩|⟨_,h⟩)
 ·simp at h
 ·exact z8 _ (by rw[bV];decide) h.symm
 ·exact z8 _ (by rw[dC];decide) h.symm
def Snp (f:Int) (S:Txt) (l0:List Pr) (s:Sto):Prop :=
 (f=0∧S=[]∧l0=[]∧s.size=0∧s.sum=0)∨(0<f∧fm s.disk.files (aH f)=some (S,((S.length:Nat):Int))∧aR S=some l0∧s.size=((S.length:Nat):Int)∧s.sum=cB S)
structure W (f:Int) (S:Txt) (l0:List Pr) (s:Sto) (M:List SR) (g:Seg) (l:List Rec):Prop where
 inv:Inv f s M g l
 snp:Snp f S l0 s
 man:fm s.disk.files [109]=manV s.man
 right:manB s.man=true
 full:∀ p∈M,fm s.disk.files (fileN p.1.base)=some (rowS p.2,(((rowS p.2).length:Nat):Int))
 last:∃ q:Nat,fm s.disk.files (fileN g.base)=some (rowS l,((q:Nat):Int))∧(rowS (l.take (s.sure-g.base).toNat)).length<=q∧q<=(rowS l).length
 lo:g.base<=s.sure
 only:s.disk.down=false->∀ n,fm s.disk.files n≠none->rel f s n
theorem W.mem (h:W f S l0 s M g l):∀ p∈M++[(g,l)],p.1∈s.segs:=by
 intro p hp;rw[h.inv.segs];rcases zX.1 hp with hp|hp
 ·exact List.mem_append_left _ (List.mem_map_of_mem hp)
 ·rw[zV.1 hp];simp
theorem W.keep (h:W f S l0 s M g l) (hs:srt s.disk.files) {d:Dsk} (hs':srt d.files) (hk:∀ n,rel f s n->fm d.files n=fm s.disk.files n)
  (hd:d.down=true∨(fm d.files=fm s.disk.files∧s.disk.down=false)):W f S l0 { s with disk:=d } M g l:=by
 have hm:=h.mem;refine⟨h.inv.disk d fun p hp hh=>?_,?_,?_,h.right,fun p hp=>?_,?_,h.lo,fun hdn n hn=>?_⟩
 ·rw[lA hs] at hh;rw[lA hs',hk _ (.inr (.inl ⟨_,hm p hp,rfl⟩))];exact hh
 ·rcases h.snp with h1|⟨h1,h2,h3⟩
  ·exact .inl h1
  ·exact .inr ⟨h1,by show fm d.files _=_;rw[hk _ (.inr (.inr ⟨h1,rfl⟩))];exact h2,h3⟩
 ·show fm d.files _=_;rw[hk _ (.inl rfl)];exact h.man
 ·show fm d.files _=_;rw[hk _ (.inr (.inl ⟨_,hm p (List.mem_append_left _ hp),rfl⟩))];exact h.full p hp
 ·obtain⟨q,h1,h2⟩:=h.last;exact⟨q,by show fm d.files _=_;rw[hk _ (.inr (.inl ⟨_,hm (g,l) (by simp),rfl⟩))];exact h1,h2⟩
 ·rcases hd with hd|⟨h1,h2⟩
  ·rw[show d.down=false from hdn] at hd;cases hd
  ·exact h.only h2 n (by rw[<- h1];exact hn)
theorem W.fail (h:W f S l0 s M g l) (hs:srt s.disk.files) {r:Dsk × Int} {X:List Txt} {G:FM} (hO:Out s.disk r X G (some (fm s.disk.files))) (he:r.2≠0) (hX:∀ n∈X,¬ rel f s n) :
  W f S l0 { s with disk:=r.1 } M g l∧((r.2=9∧fm r.1.files=fm s.disk.files∧r.1.down=false)∨(r.2=10∧r.1.down=true)):=by
 obtain⟨k,s1,o⟩:=hO;rcases o with⟨e,_⟩|⟨q,hq,e,hd,hf⟩|⟨e,hd,hf⟩
 ·exact absurd e he
 ·cases hq;have h0:s.disk.down=false:=by
   cases hx:s.disk.down with
   | false=>rfl
   | true=>rw[k.down hx,hx] at hd;cases hd
  exact⟨h.keep hs s1 (fun n _=>by rw[hf]) (.inr ⟨hf,h0⟩),.inl ⟨e,hf,hd⟩⟩
 ·exact⟨h.keep hs s1 (fun n hn=>hf n (fun hx=>hX n hx hn)) (.inl hd),.inr ⟨e,hd⟩⟩
theorem uf {f:Int} {M:List SR} {g:Seg} (h:chainM f M g.base):∀ p∈M,p.1.base<g.base:=fun p hp=>by
 have:=(dB _ _ _ h).2 p hp;omega
theorem ox:∀ (l:List Int) (a:Int),j7 a l=true↔(l.Pairwise (· < ·)∧∀ n∈l,a<n∧n<=1099511627776)
 | [],a=>by simp[j7]
 | x::r,a=>by
  have ih:=ox r x;simp only[j7,Bool.and_eq_true,decide_eq_true_eq,ih,List.pairwise_cons,List.mem_cons];constructor
  ·rintro⟨h1,h2,h3⟩;exact⟨⟨fun b hb=>(h3 b hb).1,h2⟩,fun n hn=>by
    rcases hn with rfl|hn
    ·exact h1
    ·have:=h3 n hn;exact⟨by omega,this.2⟩⟩
  ·rintro⟨⟨h1,h2⟩,h3⟩;exact⟨h3 x (.inl rfl),h2,fun n hn=>⟨h1 n hn,(h3 n (.inr hn)).2⟩⟩
theorem v6 {m:Man} (hv:1<=m.ver∧m.ver<=1099511627776) (hl:1<=m.segs.length∧m.segs.length<=64) (hi:j7 (-1) m.segs=true) (hz:(m.segs.head?=some 0∧m.size=0∧m.sum=0)∨(m.segs.head?≠some 0∧0<m.size∧m.size<=65536)):manB m=true:=by
 unfold manB;rw[hi,Bool.true_and,Bool.and_eq_true];refine⟨by simpa using⟨hv.1,hv.2,hl.1,hl.2⟩,?_⟩
 rcases hz with⟨h1,h2,h3⟩|⟨h1,h2,h3⟩
 ·rw[if_pos h1];simp[h2,h3]
 ·rw[if_neg h1];simp[h2,h3]
theorem Iu {m:Man} (h:manB m=true):(m.segs.head?=some 0∧m.size=0∧m.sum=0)∨(m.segs.head?≠some 0∧0<m.size∧m.size<=65536):=by
 unfold manB at h;rw[Bool.and_eq_true,Bool.and_eq_true] at h;have h2:=h.2.2;by_cases c:m.segs.head?=some 0
 ·rw[if_pos c] at h2;exact .inl ⟨c,by simpa using h2⟩
 ·rw[if_neg c] at h2;exact .inr ⟨c,by simpa using h2⟩
variable {k u:Nat} {f:Int} {S:Txt} {l0:List Pr} {s:Sto} {M:List SR} {g:Seg} {l:List Rec}
theorem W.file_ne (ho:okS k u s) (h:W f S l0 s M g l):∀ p∈M,fileN p.1.base≠fileN g.base:=fun p hp e=>by
 have h1:=(ho.seg _ (h.mem p (List.mem_append_left _ hp))).1;have h2:=(ho.seg _ (h.mem (g,l) (by simp))).1
 have:p.1.base=g.base:=dN h1 h2 e;have:=uf h.inv.chain p hp;omega
theorem Dk.up_of {d d':Dsk} (h:Dk d d') (hd:d'.down=false):d.down=false:=by
 cases hx:d.down with
 | false=>rfl
 | true=>rw[h.down hx,hx] at hd;cases hd
theorem W.change (ho:okS k u s) (h:W f S l0 s M g l) {s':Sto} {g':Seg} {l':List Rec} {x:Txt} {q:Nat} (hi:Inv f s' M g' l') (hb:g'.base=g.base) (hf:fm s'.disk.files=up (fm s.disk.files) (fileN g.base) (some (x,((q:Nat):Int)))) (hd:s.disk.down=false)
  (hm:s'.man=s.man) (hz:s'.size=s.size∧s'.sum=s.sum) (hx:x=rowS l') (h1:(rowS (l'.take (s'.sure-g.base).toNat)).length<=q∧q<=(rowS l').length) (hl:g.base<=s'.sure):W f S l0 s' M g' l':=by
 have hne:=h.file_ne ho;have hsg:∀ n,rel f s n->rel f s' n:=by
  rintro n (hn|⟨a,ha,hn⟩|hn)
  ·exact .inl hn
  ·refine .inr (.inl ?_);rw[h.inv.segs] at ha;rcases zX.1 ha with ha|ha
   ·exact⟨a,by rw[hi.segs];exact List.mem_append_left _ ha,hn⟩
   ·rw[zV.1 ha] at hn;exact⟨g',by rw[hi.segs];simp,by rw[hb];exact hn⟩
  ·exact .inr (.inr hn)
 refine⟨hi,?_,?_,by rw[hm];exact h.right,fun p hp=>?_,⟨q,?_,by rw[hb];exact h1⟩,by rw[hb];exact hl,fun _ n hn=>?_⟩
 ·rcases h.snp with h2|⟨h2,h3,h4⟩
  ·exact .inl ⟨h2.1,h2.2.1,h2.2.2.1,by rw[hz.1];exact h2.2.2.2.1,by rw[hz.2];exact h2.2.2.2.2⟩
  ·exact .inr ⟨h2,by rw[hf,bn _ _ (cV _ _)];exact h3,h4.1,by rw[hz.1];exact h4.2.1,by rw[hz.2];exact h4.2.2⟩
 ·rw[hf,hm,bn _ _ (jZ _ (by rw[bV];decide)).symm];exact h.man
 ·rw[hf,bn _ _ (hne p hp)];exact h.full p hp
 ·rw[hf,hb,cU,hx]
 ·by_cases c:n=fileN g.base
  ·exact hsg n (.inr (.inl ⟨g,h.mem (g,l) (by simp),c⟩))
  ·rw[hf,bn _ _ c] at hn;exact hsg n (h.only hd n hn)
theorem W.sync (ho:okS k u s) (h:W f S l0 s M g l):W f S l0 (aU s).1 M g l∧(((aU s).2=0∧(aU s).1.sure=s.next∧(aU s).1.disk.down=false)∨((aU s).2=10∧(aU s).1.disk.down=true∧(aU s).1.sure=s.sure))∧(aU s).1.disk.cap=s.disk.cap:=by
 have hi:=yv ho h.inv ho.next.1;obtain⟨q,h1,h2,h3⟩:=h.last;have hO:=oq ho.dsk.srt h1;have hl:=h.inv.last;have es:aU s=({ s with disk:=(aj s.disk (ct s.disk.files (fileN g.base))).1,sure:=if(aj s.disk (ct s.disk.files (fileN g.base))).2=0 then s.next else s.sure },(aj s.disk (ct s.disk.files (fileN g.base))).2):=by unfold aU;rw[hl]
 rw[es] at hi ⊢;generalize aj s.disk (ct s.disk.files (fileN g.base))=r at *;have hnx:=h.inv.next;have hcap:=hO.1.cap;rcases hO.2.2 with⟨e,hd,hf⟩|⟨_,hc,_⟩|⟨e,hd,hf⟩
 ·have e1:(if r.2=0 then s.next else s.sure)=s.next:=if_pos e
  rw[e1] at hi ⊢;refine⟨h.change ho hi rfl hf (hO.1.up_of hd) rfl ⟨rfl,rfl⟩ rfl ⟨?_,Nat.le_refl _⟩ ?_,.inl ⟨e,rfl,hd⟩,hcap⟩
  ·simp only[];rw[zL (by omega)];exact Nat.le_refl _
  ·simp only[];omega
 ·cases hc
 ·have e1:(if r.2=0 then s.next else s.sure)=s.sure:=if_neg (by rw[e];decide)
  rw[e1];exact⟨h.keep ho.dsk.srt hO.2.1 (fun n _=>hf n (by simp)) (.inl hd),.inr ⟨e,hd,rfl⟩,hcap⟩
theorem It (h:Inv f s M g l) (a b:Int):((s.segs.dropLast++[⟨s.last.base,a,b⟩]:List Seg)).map Seg.base=s.segs.map Seg.base:=by
 rw[h.last,h.segs];simp
theorem W.put (ho:okS k u s) (h:W f S l0 s M g l) (r:Rec) (hr:whyF r=0) (ha:r.at_=s.next) :
  ((f9 s (d9 r).1).1.disk.cap=s.disk.cap∧(f9 s (d9 r).1).1.sure=s.sure)∧((W f S l0 (f9 s (d9 r).1).1 M g l∧(f9 s (d9 r).1).1.next=s.next∧(f9 s (d9 r).1).1.segs=s.segs∧(f9 s (d9 r).1).1.ver=s.ver∧((((f9 s (d9 r).1).2=9∧(f9 s (d9 r).1).1.disk.down=false)∨((f9 s (d9 r).1).2=10∧(f9 s (d9 r).1).1.disk.down=true)))) ∨
  ((f9 s (d9 r).1).2=0∧(f9 s (d9 r).1).1.disk.down=false∧W f S l0 (f9 s (d9 r).1).1 M ⟨g.base,g.n+1,g.size+(aT (bH r)).length⟩ (l++[r]))):=by
 have hp:=JK ho h.inv r hr ha;have hl:=h.inv.last;have e1:(d9 r).1=aT (bH r):=by unfold d9;rw[if_pos hr]
 obtain⟨q,h1,h2,h3⟩:=h.last;have hO:=rQ ho.dsk.srt (aT (bH r)) h1;have hsg:=It h.inv (s.last.n+1) (s.last.size+((aT (bH r)).length:Nat));have hnx:=h.inv.next;have hsu:=h.inv.sure;have es:f9 s (d9 r).1=if(aj s.disk (bK s.disk.files s.disk.cap (fileN g.base) (aT (bH r)))).2≠0 then({ s with disk:=(aj s.disk (bK s.disk.files s.disk.cap (fileN g.base) (aT (bH r)))).1 },(aj s.disk (bK s.disk.files s.disk.cap (fileN g.base) (aT (bH r)))).2) else({ At s (aT (bH r)).length with disk:=(aj s.disk (bK s.disk.files s.disk.cap (fileN g.base) (aT (bH r)))).1 },0):=by
  unfold f9;rw[hl,e1]
 rw[es] at hp ⊢;have hcap:=hO.1.cap;by_cases c:(aj s.disk (bK s.disk.files s.disk.cap (fileN g.base) (aT (bH r)))).2=0
 ·rw[if_neg (by simp[c])] at hp ⊢
  refine⟨⟨hcap,rfl⟩,.inr ?_⟩;rcases hp with⟨hp,_⟩|⟨_,hp⟩
  ·exact absurd rfl hp
  ·rcases hO.2.2 with⟨e,hd,hf⟩|⟨_,_,e,_⟩|⟨e,_⟩
   ·refine⟨rfl,hd,h.change ho hp rfl hf (hO.1.up_of hd) ?_ ⟨rfl,rfl⟩ (m0 _ _).symm ⟨?_,?_⟩ h.lo⟩
    ·show(⟨s.ver,(s.segs.dropLast++[_]).map Seg.base,s.size,s.sum⟩:Man)=s.man;rw[hsg];rfl
    ·show(rowS ((l++[r]).take (s.sure-g.base).toNat)).length<=q;rw[List.take_append_of_le_length (by omega)];exact h2
    ·rw[m0,zA];omega
   ·rw[e] at c;cases c
   ·rw[e] at c;cases c
 ·rw[if_pos c] at hp ⊢;refine⟨⟨hcap,rfl⟩,.inl ?_⟩;have:=h.fail ho.dsk.srt hO c (by simp)
  refine⟨this.1,rfl,rfl,rfl,?_⟩;rcases this.2 with⟨a,_,b⟩|h
  ·exact .inl ⟨a,b⟩
  ·exact .inr h
end Go.Proofs.YtgoifbjgmgbihaaGreat
