import Derived.Test.YtgoifbjgmgbihaaGreatT04
import Derived.Test.YtgoifbjgmgbihaaGreatVid
import Derived.Test.YtgoifbjgmgbihaaGreatT03
set_option linter.unusedSimpArgs false
set_option linter.unusedVariables false
set_option maxRecDepth 20000
set_option maxHeartbeats 16000000
namespace Go.Proofs.YtgoifbjgmgbihaaGreat
open Go.Vi
theorem pU (d:Dsk) (hd:d.ok) (n x:Txt) (hx:x.length<=1000000000000):call 93 [.agg d.l,vs n,vs x] []=some (aK (ai d (bM d.files d.cap n x)),[]):=by
 apply ae Wr rfl;have h2:=ft d hd.len hd.srt n;have h4:=bG d hd.left [] 7;have h9:=bG d hd.left [] 9;have hus:=Cv d hd.len hd.used;have hul:=hd.used;have hcp:=hd.cap;unfold bM;cases c2:bS d.files n with
 | false =>
  rw[if_neg (by simp)]
  rw[ja c2] at h2;generalize ai d ([],7)=r at *;obtain⟨⟨f2,cp2,ar2,lf2,dn2⟩,e2⟩:=r;obtain⟨fl,cp,ar,lf,dn⟩:=d;simp only[aK,Dsk.l,List.map_nil] at h2 h4 ⊢;refine bh ?_ QJ.eq_1 h2 h4;try simp[trim]
 | true =>
  rw[if_pos rfl];rw[gJ c2] at h2;obtain⟨hp,he⟩:=cq c2;by_cases c:0<d.cap∧d.cap-(usedF d.files:Nat)<x.length
  ·rw[if_pos c];obtain⟨c3,c4⟩:=c;have c5:d.cap<(usedF d.files:Nat)+(x.length:Int):=by omega
   generalize ai d ([],9)=r at *;obtain⟨⟨f2,cp2,ar2,lf2,dn2⟩,e2⟩:=r;obtain⟨fl,cp,ar,lf,dn⟩:=d;have hpl:=hd.len;simp only[aK,Dsk.l,List.map_nil] at h2 h9 hus hul hcp c3 c4 c5 hp hpl ⊢;generalize au fl n=p at *;refine bh ?_ QJ.eq_1 h2 c3 hus c5 h9;try simp[trim]
  ·rw[if_neg c,ji hp];have g1:(d.files.map Fil.enc)[au d.files n]?=some d.files[au d.files n].enc:=by simp[hp]
   have hdl:=nP d.files _ hp;have h3:=lK d.files hd.len hd.srt { d.files[au d.files n] with data:=d.files[au d.files n].data++x }
   have h5:=tI hd.srt { d.files[au d.files n] with data:=d.files[au d.files n].data++x } (by simp only[he];exact c2)
   rw[h5] at h3;simp only[he] at h3;have hK:=bG d hd.left (d.files.set (au d.files n) { d.files[au d.files n] with data:=d.files[au d.files n].data++x }) 0
   have hpl:=hd.len;generalize au d.files n=p at *;simp only[he] at hK ⊢;generalize d.files[p]=f at *;obtain⟨fn,fd,fs⟩:=f;simp only at he h3 hK hdl ⊢;subst he;have hfx:fd.length+x.length<=9223372036854775807:=by omega
   obtain⟨fx,hfe⟩:∃ fx,fd++x=fx:=⟨_,rfl⟩;rw[hfe] at h3 hK ⊢;generalize d.files.set p ⟨fn,fx,fs⟩=q at *;generalize ai d (q,0)=r at *;obtain⟨⟨f2,cp2,ar2,lf2,dn2⟩,e2⟩:=r;obtain⟨fl,cp,ar,lf,dn⟩:=d;simp only[aK,Dsk.l,Fil.enc,List.map_cons,List.map_nil] at g1 h2 h3 hK hp hpl hus hul hcp c ⊢;by_cases c3:0<cp
   ·have c5:¬ cp<(usedF fl:Nat)+(x.length:Int):=by omega
    refine bh ?_ QJ.eq_1 h2 c3 hus c5 g1 hfe h3 hK;try simp[trim]
   ·refine bh ?_ QJ.eq_1 h2 c3 g1 hfe h3 hK;try simp[trim]
theorem pI (d:Dsk) (hd:d.ok) (n t:Txt):call 94 [.agg d.l,vs n,vs t] []=some (aK (ai d (i8 d.files n t)),[]):=by
 apply ae WE rfl;have h1:=tj t;have h2:=ft d hd.len hd.srt n;have h4:=bG d hd.left [] 7;have h9:=bG d hd.left [] 1;unfold i8;cases c2:bS d.files n with
 | false =>
  rw[if_neg (by simp)]
  rw[ja c2] at h2;generalize ai d ([],7)=r at *;obtain⟨⟨f2,cp2,ar2,lf2,dn2⟩,e2⟩:=r;obtain⟨fl,cp,ar,lf,dn⟩:=d;simp only[aK,Dsk.l,List.map_nil] at h2 h4 ⊢;refine bh ?_ S6.eq_1 h2 h4;try simp[trim]
 | true =>
  rw[if_pos rfl];rw[gJ c2] at h2;obtain⟨hp,he⟩:=cq c2;cases c1:dU t with
  | false =>
   rw[c1] at h1;rw[if_neg (by simp)]
   have hpl:=hd.len;generalize ai d ([],1)=r at *;obtain⟨⟨f2,cp2,ar2,lf2,dn2⟩,e2⟩:=r;obtain⟨fl,cp,ar,lf,dn⟩:=d;simp only[aK,Dsk.l,List.map_nil] at h2 h9 hp hpl ⊢;generalize au fl n=p at *;refine bh ?_ S6.eq_1 h2 h1 h9;try simp[trim]
  | true =>
   rw[c1] at h1;rw[if_pos rfl];have g1:(d.files.map Fil.enc)[au d.files n]?=some d.files[au d.files n].enc:=by simp[hp]
   have h3:=mt d.files hd.len n;rw[yx hd.srt c2] at h3;have hds:=mG hd.srt (au d.files n);have hdl:=qA _ _ hp;have hpl:=hd.len;have hna:eb d.files (au d.files n) t={ d.files[au d.files n] with name:=t }:=by unfold eb;rw[zE hp]
   have h5:=lK (fI d.files (au d.files n)) (by omega) hds (eb d.files (au d.files n) t)
   rw[ME hds] at h5;generalize jm (fI d.files (au d.files n)) (eb d.files (au d.files n) t)=q at *;have hK:=bG d hd.left q 0;rw[hna] at h5;generalize fI d.files (au d.files n)=dq at *;generalize au d.files n=p at *;generalize d.files[p]=f at *;obtain⟨fn,fd,fs⟩:=f;generalize ai d (q,0)=r at *;obtain⟨⟨f2,cp2,ar2,lf2,dn2⟩,e2⟩:=r;obtain⟨fl,cp,ar,lf,dn⟩:=d;simp only[aK,Dsk.l,Fil.enc,List.map_cons,List.map_nil] at g1 h2 h3 h5 hK hp hpl ⊢;refine bh ?_ S6.eq_1 h2 h1 g1 h3 h5 hK;try simp[trim]
theorem gv (d:Dsk) (hl:d.files.length<=1000000) (hs:srt d.files) (n:Txt):call 26 [.agg d.l,vs n] []=some (.tup [(false,[.d (.s (az d.files n).1)]),(false,[.d (.i .i64 (az d.files n).2)])],[]):=by
 apply ae WP rfl;have h2:=ft d hl hs n;cases c2:bS d.files n with
 | false =>
  have hr:az d.files n=([],7):=by
   unfold az;unfold bS at c2;cases hf:d.files[au d.files n]? with
   | none=>rfl
   | some f =>
    rw[hf] at c2;simp only[] at c2 ⊢;rw[if_neg (by simpa using c2)]
  rw[ja c2] at h2;rw[hr];obtain⟨fl,cp,ar,lf,dn⟩:=d;simp only[Dsk.l] at h2 ⊢;refine bh ?_ Vq.eq_1 h2;try simp[trim]
 | true =>
  obtain⟨hp,he⟩:=cq c2;have hr:az d.files n=(d.files[au d.files n].data,0):=by
   unfold az;rw[zE hp];simp[he]
  rw[gJ c2] at h2;rw[hr];have g1:(d.files.map Fil.enc)[au d.files n]?=some d.files[au d.files n].enc:=by simp[hp]
  generalize au d.files n=p at *;generalize d.files[p]=f at *;obtain⟨fn,fd,fs⟩:=f;obtain⟨fl,cp,ar,lf,dn⟩:=d;simp only[Dsk.l,Fil.enc] at g1 h2 hp hl ⊢;refine bh ?_ Vq.eq_1 h2 g1;try simp[trim]
def gS (n k:Nat):Txt:=(List.range k).map fun j=>UInt8.ofNat (jP n (14-k+j))
theorem Du (n k:Nat) (h:k<13):gS n (k+1)=UInt8.ofNat (jP n (13-k))::gS n k:=by
 unfold gS;rw[List.range_succ_eq_map,List.map_cons,List.map_map];have e:14-(k+1)+0=13-k:=by omega
 rw[e];congr 1
 apply List.map_congr_left;intro j hj;simp only[Function.comp];have e2:14-(k+1)+(j+1)=14-k+j:=by omega
 rw[Nat.succ_eq_add_one,e2]
theorem sO (n:Nat) (hn:n<=1099511627776):call 52 [vi n] []=some (vs (gS n 13),[]):=by
 apply ae WV rfl;refine bd ?_ V3.eq_1;obtain⟨Z,hZ⟩:∃ Z:V,Z=vs (gS n 13):=⟨_,rfl⟩;rw[<- hZ];refine aq (m:=0) (σ:=Nat) (fun i=>13-i) (fun i=>i<=13) (fun i=>[vi (n / 10 ^ i:Nat),vs (gS n i),vi i])
  (fun _=>[]) (fun _=>(Z,[])) ?_ 0 (by decide) _ _ ?_
 rotate_left
 ·have e:n / 10 ^ 0=n:=by simp
  rw[e];exact bA
 intro i hi R hR;by_cases c:i<13
 ·have ci:(i:Int)<13:=by omega
  have hK:=hR (i+1) (by omega) (by omega)
  rw[Du n i c] at hK;have hq:n / 10 ^ (i+1)=n / 10 ^ i / 10:=by rw[Nat.pow_succ,Nat.div_div_eq_div_mul]
  rw[hq] at hK;have hdg:jP n (13-i)=48+n / 10 ^ i % 10:=by
   unfold jP;have:13-(13-i)=i:=by omega
   rw[this]
  rw[hdg] at hK;have hqn:n / 10 ^ i<=n:=Nat.div_le_self _ _;have hlt:(gS n i).length=i:=by simp[gS]
  generalize gS n i=T at *;generalize n / 10 ^ i=q at *;have hm:((q:Nat):Int).tmod 10=((q % 10:Nat):Int):=by rw[Int.tmod_eq_emod_of_nonneg (by omega)];omega
  have hd:((q:Nat):Int).tdiv 10=((q / 10:Nat):Int):=by rw[Int.tdiv_eq_ediv_of_nonneg (by omega)];omega
  have hw:IntKind.u8.wrap (48+((q % 10:Nat):Int))=((48+q % 10:Nat):Int):=by rw[tH (by omega)];omega
  (simp(disch:=first|decide|omega|(intros;exact aP rfl rfl)|simp only[am]) only[Lb,ci,hm,hd,hw,gk,hlt,go_sem,seval,aO])
  exact hK _ _ bA
 ·have hie:i=13:=by omega
  subst hie;refine bd ?_ Lb.eq_1;try rw[hZ]
  try simp[trim]
theorem iw {n:Int} (h:0<=n∧n<=1099511627776):call 32 [vi n] []=some (vs (fileN n),[]):=by
 have h1:=sO n.toNat (by omega)
 have e:((n.toNat:Nat):Int)=n:=by omega
 rw[e] at h1;have e2:fileN n=115::gS n.toNat 13:=by
  unfold fileN fT gS;congr 1
 have hl:(gS n.toNat 13).length=13:=by simp[gS]
 rw[e2];generalize gS n.toNat 13=T at *;have c1:¬ n<0:=by omega
 have c2:¬ (1099511627776:Int)<n:=by omega
 apply ae WY rfl;refine bd ?_ VD.eq_1 c1 c2 h1 hl;try simp[trim]
theorem Ge (s:Sto) (hl:s.segs.length<=1000000):call 72 [.agg s.l] []=some (.agg s.man.l,[]):=by
 apply ae WW rfl;obtain⟨⟨fl,cp,ar,lf,dn⟩,ver,segs,next,sure,size,sum⟩:=s;simp only at hl;unfold Sto.man;refine R5 ?_ VS.eq_1 @Sto.l.eq_1 @Dsk.l.eq_1 @Man.l.eq_1;obtain⟨Z,hZ⟩:∃ Z:V,Z=V.agg [zI ver,.d (.l ((segs.map Seg.base).map eI)),zI size,zW sum]:=⟨_,rfl⟩;rw[<- hZ];refine aq (m:=0) (σ:=Option Nat) (fun t=>match t with|none=>segs.length+1|some i=>segs.length-i) (fun t=>match t with|none=>True|some i=>i+1<=segs.length) (fun t=>match t with|none=>[V.one (.p 0 0),V.one (.p 1 0),V.one (.p 2 0),vi 0]|some i=>[V.one (.p 0 0),V.one (.p 1 0),V.one (.p 2 0),vi ((i+1:Nat):Int)])
  (fun t=>match t with|none=>[.cells [.d (.l (fl.map Fil.enc)),zI cp,zB ar,zI lf,zB dn,zI ver,.d (.l (segs.map Seg.enc)),zI next,zI sure,zI size,zW sum],.cells [zI 0,.ns,zI 0,zW 0],.cells [zI ver,.ns,zI size,zW sum]]|some i=>[.cells [.d (.l (fl.map Fil.enc)),zI cp,zB ar,zI lf,zB dn,zI ver,.d (.l (segs.map Seg.enc)),zI next,zI sure,zI size,zW sum],.cells [zI 0,.ns,zI 0,zW 0],.cells [zI ver,.sl 3 1 0 (i+1),zI size,zW sum],.arr 1 ((segs.take (i+1)).map fun g=>eI g.base) 0]) (fun _=>(Z,[])) ?_ none trivial _ _ ?_
 rotate_left
 ·exact bA
 intro t hi R hR;cases t with
 | none =>
  by_cases c:0<segs.length
  ·have g1:(segs.map Seg.enc)[0]?=some segs[0].enc:=by simp[c]
   have ci:(0:Int)<(segs.length:Int):=by omega
   have hK:=hR (some 0) (by simp only[];omega) (by simp only[];omega)
   have e1:((segs.take (0+1)).map fun g=>eI g.base)=[eI segs[0].base]:=by cases segs with|nil=>cases c|cons a r=>rfl
   clear hR;simp only[] at hK ⊢;rw[e1] at hK;generalize segs[0]=g at *;obtain⟨gb,gn,gz⟩:=g;simp only[Seg.enc,eI] at g1 hK;(simp(disch:=first|decide|omega|(intros;exact aP rfl rfl)|simp only[am]) only[BG,ci,g1,↓BV,Pz,go_sem,seval,aO,gL,A.kind,A.xs,co,A.isN])
   exact hK _ _ bA
  ·have e:segs=[]:=List.length_eq_zero_iff.1 (by omega)
   subst e;clear hR;simp only[];refine R5 ?_ BG.eq_1;try rw[hZ]
   try simp[trim]
 | some i =>
  have hln:((segs.take (i+1)).map fun g=>eI g.base).length=i+1:=by simp;omega
  by_cases c:i+1<segs.length
  ·have g1:(segs.map Seg.enc)[i+1]?=some segs[i+1].enc:=by simp[c]
   have hK:=hR (some (i+1)) (by simp only[];omega) (by simp only[];omega)
   clear hR;simp only[] at hK ⊢;have e1:((segs.take (i+1+1)).map fun g=>eI g.base)=((segs.take (i+1)).map fun g=>eI g.base)++[eI segs[i+1].base]:=by
    rw[zO c,List.map_append];rfl
   rw[e1] at hK;generalize ((segs.take (i+1)).map fun g=>eI g.base)=Q at *
   generalize segs[i+1]=g at *;obtain⟨gb,gn,gz⟩:=g;have ci:((i+1:Nat):Int)<(segs.length:Int):=by omega
   simp only[Seg.enc,eI] at g1 hK;(simp(disch:=first|decide|omega|(intros;exact aP rfl rfl)|simp only[am]) only[BG,ci,g1,hln,↓oi,xD,go_sem,seval,aO,gL,A.kind,A.xs,co,A.isN])
   exact hK _ _ bA
  ·have ci:¬ ((i+1:Nat):Int)<(segs.length:Int):=by omega
   have e:segs.take (i+1)=segs:=zL (by omega)
   clear hR;simp only[];rw[e] at hln ⊢;have e3:(segs.map Seg.base).map eI=segs.map fun g=>eI g.base:=by simp
   rw[e3] at hZ;generalize (segs.map fun g=>eI g.base)=Q at *
   have e4:Q.take (i+1)=Q:=zL (by omega)
   refine R5 ?_ BG.eq_1 ci hln e4;rw[hZ];try simp[zR]
def nK (segs:List Int) (i:Nat):Int:=match i with|0 => -1|i+1=>segs.getD i 0
theorem uZ (m:Man) (hl:m.segs.length<=1000000):call 75 [.agg m.l] []=some (vb (manB m),[]):=by
 obtain⟨ver,segs,size,sum⟩:=m;unfold manB Man.l;simp only at hl ⊢;apply ae Xc rfl;by_cases c1:1<=ver
 ·by_cases c2:ver<=1099511627776
  ·by_cases c3:1<=segs.length
   ·by_cases c4:segs.length<=64
    ·rw[decide_eq_true ⟨c1,c2,c3,c4⟩,Bool.true_and];obtain⟨Z,hZ⟩:∃ Z:V × Hp,Z=(vb (lx (-1) segs && (if segs.head?=some 0 then decide (size=0∧sum=0) else decide (0<size∧size<=65536))),[]):=⟨_,rfl⟩
     rw[<- hZ];have d1:¬ ver<1:=by omega
     have d2:¬ (1099511627776:Int)<ver:=by omega
     have d3:¬ (segs.length:Int)<1:=by omega
     have d4:¬ (64:Int)<segs.length:=by omega
     refine bd ?_ QE.eq_1 d1 d2 d3 d4;refine aq (m:=0) (σ:=Nat) (fun i=>segs.length-i) (fun i=>i<=segs.length∧lx (-1) segs=lx (nK segs i) (segs.drop i)∧(0<i->0<=nK segs i)) (fun i=>[V.one (.p 0 0),vi i])
      (fun _=>[.cells [zI ver,.d (.l (segs.map eI)),zI size,zW sum]]) (fun _=>Z) ?_ 0 ⟨zP _,rfl,by omega⟩ _ _ ?_
     rotate_left
     ·exact bA
     rintro i ⟨hi,hinc,hpv⟩ R hR;by_cases c5:i<segs.length
     ·have c5i:(i:Int)<(segs.length:Int):=by omega
      have g1:(segs.map eI)[i]?=some (eI segs[i]):=by simp[c5]
      rw[wW _ c5] at hinc;have hpn:nK segs (i+1)=segs[i]:=by simp[nK,c5]
      by_cases c6:segs[i]<0
      ·have hd:decide (nK segs i<segs[i]∧segs[i]<=1099511627776)=false:=zF (by
        rintro⟨h1,h2⟩;cases i with
        | zero=>simp only[nK] at h1;omega
        | succ i=>have:=hpv (by omega);omega)
       rw[hd,Bool.false_and] at hinc;rw[hinc,Bool.false_and] at hZ;refine bd ?_ mP.eq_1 c5i g1 @dL @fR c6;rw[hZ]
      ·by_cases c7:(1099511627776:Int)<segs[i]
       ·have hd:decide (nK segs i<segs[i]∧segs[i]<=1099511627776)=false:=zF (by omega)
        rw[hd,Bool.false_and] at hinc;rw[hinc,Bool.false_and] at hZ;refine bd ?_ mP.eq_1 c5i g1 @dL @fR c6 c7;rw[hZ]
       ·cases i with
        | zero =>
         have hd:decide (nK segs 0<segs[0]∧segs[0]<=1099511627776)=true:=zT (by simp only[nK];omega)
         rw[hd,Bool.true_and] at hinc;refine bd ?_ mP.eq_1 c5i g1 @dL @fR c6 c7;exact hR (0+1) (by omega) ⟨by omega,by rw[hpn];exact hinc,fun _=>by rw[hpn];omega⟩ _ _ bA
        | succ i =>
         have hpi:nK segs (i+1)=segs[i]:=by simp[nK,show i<segs.length by omega]
         rw[hpi] at hinc;have g2:(segs.map eI)[i]?=some (eI segs[i]):=by simp[show i<segs.length by omega]
         have hsub:((i+1:Nat):Int)-1=(i:Int):=by omega
         have c0:(0:Int)<((i+1:Nat):Int):=by omega
         by_cases c8:segs[i+1]<=segs[i]
         ·have hd:decide (segs[i]<segs[i+1]∧segs[i+1]<=1099511627776)=false:=zF (by omega)
          rw[hd,Bool.false_and] at hinc;rw[hinc,Bool.false_and] at hZ;refine bd ?_ mP.eq_1 c5i g1 g2 @dL @fR c6 c7 c0 hsub c8;rw[hZ]
         ·have hd:decide (segs[i]<segs[i+1]∧segs[i+1]<=1099511627776)=true:=zT (by omega)
          rw[hd,Bool.true_and] at hinc;refine bd ?_ mP.eq_1 c5i g1 g2 @dL @fR c6 c7 c0 hsub c8;exact hR (i+1+1) (by omega) ⟨by omega,by rw[hpn];exact hinc,fun _=>by rw[hpn];omega⟩ _ _ bA
     ·rw[List.drop_of_length_le (by omega)] at hinc
      have hinc2:lx (-1) segs=true:=hinc;rw[hinc2,Bool.true_and] at hZ;have c5i:¬ (i:Int)<(segs.length:Int):=by omega
      have g0:(segs.map eI)[0]?=some (eI segs[0]):=by rw[zG,zE c3];rfl
      have hh:segs.head?=some segs[0]:=by rw[List.head?_eq_getElem?];simp
      rw[hh] at hZ;by_cases z:segs[0]=0
      ·rw[if_pos (by rw[z])] at hZ
       by_cases z2:size=0
       ·by_cases z3:sum=0
        ·refine bd ?_ mP.eq_1 c5i g0 @dL @fR z z2 z3;rw[hZ];simp[z2,z3]
        ·refine bd ?_ mP.eq_1 c5i g0 @dL @fR z z2 z3;rw[hZ];simp[z2,z3]
       ·refine bd ?_ mP.eq_1 c5i g0 @dL @fR z z2;rw[hZ];simp[z2]
      ·rw[if_neg (by simpa using z)] at hZ
       by_cases z2:1<=size
       ·by_cases z3:size<=65536
        ·refine bd ?_ mP.eq_1 c5i g0 @dL @fR z z2 z3;rw[hZ];simp[z3];omega
        ·refine bd ?_ mP.eq_1 c5i g0 @dL @fR z z2 z3;rw[hZ];simp[z3]
       ·refine bd ?_ mP.eq_1 c5i g0 @dL @fR z z2;rw[hZ];simp;omega
    ·rw[zF (fun h=>c4 h.2.2.2),Bool.false_and]
     have d1:¬ ver<1:=by omega
     have d2:¬ (1099511627776:Int)<ver:=by omega
     have d3:¬ (segs.length:Int)<1:=by omega
     have d4:(64:Int)<segs.length:=by omega
     refine bd ?_ QE.eq_1 d1 d2 d3 d4;try simp[trim]
   ·rw[zF (fun h=>c3 h.2.2.1),Bool.false_and]
    have d1:¬ ver<1:=by omega
    have d2:¬ (1099511627776:Int)<ver:=by omega
    have d3:(segs.length:Int)<1:=by omega
    refine bd ?_ QE.eq_1 d1 d2 d3;try simp[trim]
  ·rw[zF (fun h=>c2 h.2.1),Bool.false_and]
   have d1:¬ ver<1:=by omega
   have d2:(1099511627776:Int)<ver:=by omega
   refine bd ?_ QE.eq_1 d1 d2;try simp[trim]
 ·rw[zF (fun h=>c1 h.1),Bool.false_and]
  have d1:ver<1:=by omega
  refine bd ?_ QE.eq_1 d1;try simp[trim]
theorem jw (m:Man) (hm:m.ok):call 51 [.agg m.l] []=some (.tup [(false,[.d (.s (bc m).1)]),(false,[.d (.i .i64 (bc m).2)])],[]):=by
 have hr:=uZ m hm.len;unfold bc;cases c:manB m with
 | false =>
  rw[c] at hr;apply ae VL rfl;simp only[Man.l] at hr;refine bd ?_ Vt.eq_1 @Man.l.eq_1 hr;try simp[trim]
 | true =>
  rw[c] at hr;have hb:=kZ c;obtain⟨h1,h2,h3,h4⟩:=iE c;have hmem:=ke _ _ h3;have hsum:=hm.sum;have hf:call 76 [.one (zW m.sum)] []=some (vs (dN (iA m)),[]):=by
   have:=pG (iA m);have e:(((iA m).toNat:Nat):Int)=m.sum:=by unfold iA;simp;omega
   rw[e] at this;exact this
  have hp:=lZ (bY m) (by omega)
  unfold AL at hp;rw[if_pos ⟨hb.1,by omega⟩] at hp
  have q1:=tE (n:=m.ver) (by omega) (by omega)
  have q2:=tE (n:=(m.segs.length:Int)) (by omega) (by omega)
  rw[Int.toNat_natCast] at q2;have q3:=tE (n:=m.size) (by omega) (by omega)
  have l1:=(x8 (n:=m.ver.toNat) (by omega)).2
  have l2:=(x8 (n:=m.segs.length) (by omega)).2
  have l3:=(x8 (n:=m.size.toNat) (by omega)).2
  unfold aT;have hbd:bY m=((ah m.ver.toNat++ah m.segs.length)++bE m.segs++ah m.size.toNat)++dN (iA m):=by
   unfold bY;simp[bE,List.append_assoc]
  rw[hbd] at hp hb ⊢;have h4l:=d9 (iA m);generalize dN (iA m)=F4 at *;obtain⟨ver,segs,size,sum⟩:=m;simp only[Man.l] at *;apply ae VL rfl;obtain⟨W,hW⟩:∃ W:Txt,W=aJ (((ah ver.toNat++ah segs.length)++bE segs++ah size.toNat)++F4):=⟨_,rfl⟩;rw[<- hW] at hp ⊢;have l12:(ah ver.toNat).length+(ah segs.length).length<=9223372036854775807:=by omega
  refine bd ?_ Vt.eq_1 hr q1 q2 l12;refine aq (m:=0) (σ:=Nat) (fun i=>segs.length-i) (fun i=>i<=segs.length) (fun i=>[V.one (.p 0 0),vs ((ah ver.toNat++ah segs.length)++bE (segs.take i)),vi i])
   (fun _=>[.cells [zI ver,.d (.l (segs.map eI)),zI size,zW sum]]) (fun _=>(V.tup [(false,[zS W]),(false,[zI 0])],[])) ?_ 0 (zP _) _ _ ?_
  rotate_left
  ·have e:(ah ver.toNat++ah segs.length)++bE (segs.take 0)=ah ver.toNat++ah segs.length:=by simp[bE]
   rw[e];exact bA
  intro i hi R hR;have hln:=oc (segs.take i) (fun n hn=>by have:=hmem n (zZ hn);omega)
  have hti:(segs.take i).length=i:=by simp;omega
  rw[hti] at hln;by_cases c5:i<segs.length
  ·have g1:(segs.map eI)[i]?=some (eI segs[i]):=by simp[c5]
   have hmi:=hmem _ (zN c5);have q4:=tE (n:=segs[i]) (by omega) (by omega)
   have l4:=(x8 (n:=segs[i].toNat) (by omega)).2
   have hR':=hR (i+1) (by omega) (by omega)
   have e1:bE (segs.take (i+1))=bE (segs.take i)++ah segs[i].toNat:=by
    rw[zO c5,lI];simp[bE]
   rw[e1,<- List.append_assoc] at hR';obtain⟨P,hP⟩:∃ P:Txt,P=(ah ver.toNat++ah segs.length)++bE (segs.take i):=⟨_,rfl⟩;have hPl:P.length+(ah segs[i].toNat).length<=9223372036854775807:=by rw[hP,zA,zA];omega
   rw[<- hP] at hR' ⊢;refine bd ?_ I7.eq_1 g1 @dL @fR q4 hPl;exact hR' _ _ bA
  ·have hin:i=segs.length:=by omega
   subst hin;rw[List.take_length] at hln ⊢;obtain⟨P,hP⟩:∃ P:Txt,P=(ah ver.toNat++ah segs.length)++bE segs:=⟨_,rfl⟩;have hPl:P.length+(ah size.toNat).length<=9223372036854775807:=by rw[hP,zA,zA];omega
   have hPl2:(P++ah size.toNat).length+F4.length<=9223372036854775807:=by rw[hP,zA,zA,zA];omega
   rw[<- hP] at hp ⊢;obtain⟨P2,hP2⟩:∃ P2:Txt,P2=P++ah size.toNat:=⟨_,rfl⟩;rw[<- hP2] at hp hPl2;(simp(disch:=first|decide|omega|(intros;exact aP rfl rfl)|simp only[am]) only[I7,q3,hPl,<- hP2,hPl2,hf,hp,go_sem,seval,aO])
   try simp[trim]
theorem Bp (l:List Fil) (n:Txt):(az l n).2=0↔bS l n=true:=by
 unfold az bS;cases l[au l n]? with
 | none=>simp
 | some f =>
  simp only[];by_cases h:f.name=n
  ·simp[h]
  ·simp[h]
def sK (tx:Txt) (d:Dsk):Dsk × Int :=
 let c:=ai d (bB d.files [110])
 if c.2≠0 then c else
  let p:=ai c.1 (bM c.1.files c.1.cap [110] tx)
  if p.2=9 then(let x:=ai p.1 (bN p.1.files [110]);if x.2=0 then(x.1,9) else x) else
   if p.2≠0 then p else
    let y:=ai p.1 (ch p.1.files [110])
    if y.2≠0 then y else ai y.1 (i8 y.1.files [110] [109])
def Cs (m:Man) (d:Dsk):Dsk × Int :=
 if(bc m).2≠0 then(d,(bc m).2) else
  if bS d.files [110]=true then(let x:=ai d (bN d.files [110]);if x.2≠0 then x else sK (bc m).1 x.1) else sK (bc m).1 d
theorem iI {s:Dsk × Int} (h:s.2≠0) (f:Dsk->Dsk × Int):tV s f=s:=by unfold tV;rw[if_neg h]
theorem bD (d:Dsk) (f:Dsk->Dsk × Int):tV (d,0) f=f d:=by unfold tV;rw[if_pos rfl]
theorem lG {s:Dsk × Int} {e:Int} (h:s.2=e):s=(s.1,e):=by rw[<- h]
theorem EI (tx:Txt) (d:Dsk):(if(bR [110] (d,0)).2≠0 then bR [110] (d,0) else wb [110] [109] (fi [110] (cV [110] (fL [110] tx (bR [110] (d,0))))))=sK tx d:=by
 unfold sK;have e0:bR [110] (d,0)=ai d (bB d.files [110]):=bD _ _;rw[e0];simp only[];generalize ai d (bB d.files [110])=c;by_cases h1:c.2=0
 ·rw[if_neg (by simp[h1]),if_neg (by simp[h1]),lG h1]
  have e1:fL [110] tx (c.1,0)=ai c.1 (bM c.1.files c.1.cap [110] tx):=bD _ _;rw[e1];simp only[];generalize ai c.1 (bM c.1.files c.1.cap [110] tx)=p;by_cases h2:p.2=9
  ·rw[if_pos h2];unfold cV;rw[if_neg (by simp[h2])]
   have e2:dH [110] (p.1,0)=ai p.1 (bN p.1.files [110]):=bD _ _;rw[e2];generalize ai p.1 (bN p.1.files [110])=x;by_cases h3:x.2=0
   ·rw[if_pos h3];rfl
   ·rw[if_neg h3];unfold wb fi;rw[iI (s:=x) h3,iI h3]
  ·rw[if_neg h2];unfold cV;rw[if_pos h2];by_cases h3:p.2=0
   ·rw[if_neg (by simp[h3]),lG h3]
    have e2:fi [110] (p.1,0)=ai p.1 (ch p.1.files [110]):=bD _ _;rw[e2];simp only[];generalize ai p.1 (ch p.1.files [110])=y;by_cases h4:y.2=0
    ·rw[if_neg (by simp[h4]),lG h4]
     exact bD _ _
    ·rw[if_pos h4];exact iI h4 _
   ·rw[if_pos h3];unfold wb fi;rw[iI h3,iI h3]
 ·rw[if_pos h1,if_pos h1]
theorem MT (m:Man) (d:Dsk):bT m (d,0)=Cs m d:=by
 unfold bT Cs;simp only[if_true];by_cases h1:(bc m).2=0
 ·rw[if_neg (c:=(bc m).2≠0) (by simp[h1])]
  by_cases h2:bS d.files [110]=true
  ·rw[if_pos h2,if_pos ((Bp _ _).2 h2),h1];have e0:dH [110] (d,0)=ai d (bN d.files [110]):=bD _ _;rw[e0];generalize ai d (bN d.files [110])=x;by_cases h3:x.2=0
   ·rw[if_neg (c:=x.2≠0) (by simp[h3]),lG h3];exact EI _ _
   ·rw[if_pos (c:=x.2≠0) h3];have e1:bR [110] x=x:=iI h3 _;simp only[e1];rw[if_pos (c:=x.2≠0) h3]
  ·rw[if_neg h2,if_neg (fun h=>h2 ((Bp _ _).1 h)),h1]
   exact EI _ _
 ·rw[if_pos h1];have e0:dH [110] (d,(bc m).2)=(d,(bc m).2):=iI h1 _;rw[e0,ite_self];have e1:bR [110] (d,(bc m).2)=(d,(bc m).2):=iI h1 _;rw[e1,if_pos h1]
theorem Cg (d:Dsk) {k u:Nat} (hd:okN k u d) (hk:k<=900000) (hu:u<=900000000000) (m:Man) (hm:m.ok):call 71 [.agg d.l,.agg m.l] []=some (aK (bT m (d,0)),[]):=by
 rw[MT];have q0:=jw m hm;have hpl:=mB m;unfold Cs;generalize bc m=p0 at *;obtain⟨tx,pe⟩:=p0;obtain⟨mv,ms,mz,mm⟩:=m;have q1:=ft d (Nat.le_trans hd.len (by omega)) hd.srt [110]
 have q2:=jp d (hd.ok (by omega) (by omega)) [110]
 have k1:okN k u (ai d (bN d.files [110])).1:=dX (s:=(d,0)) hd [110];simp only[Man.l] at q0 hpl ⊢;apply ae V6 rfl;by_cases c0:pe=0
 ·subst c0;rw[if_neg (by simp)]
  cases c1:bS d.files [110] with
  | true =>
   rw[if_pos rfl];rw[gJ c1] at q1;generalize au d.files [110]=pp at *;generalize ai d (bN d.files [110])=x at *;by_cases c2:x.2=0
   ·rw[if_neg (by simp[c2])]
    rw[lG c2] at q2;generalize x.1=y at *;have t1:=mI y (k1.ok (by omega) (by omega)) [110]
    have k2:=fG (s:=(y,0)) k1 [110];have ec:bR [110] (y,0)=ai y (bB y.files [110]):=bD _ _;rw[ec] at k2;unfold sK;simp only[];generalize ai y (bB y.files [110])=c at *;by_cases c3:c.2=0
    ·rw[if_neg (by simp[c3])]
     have t2:=pU c.1 (k2.ok (by omega) (by omega)) [110] tx (by omega)
     have k3:=jM (s:=(c.1,0)) k2 [110] tx;have ea:fL [110] tx (c.1,0)=ai c.1 (bM c.1.files c.1.cap [110] tx):=bD _ _;rw[ea] at k3;generalize ai c.1 (bM c.1.files c.1.cap [110] tx)=p at *;have t3:=jp p.1 (k3.ok (by omega) (by omega)) [110]
     have t4:=mw p.1 (k3.ok (by omega) (by omega)) [110]
     have k4:=lw (s:=(p.1,0)) k3 [110];have es:fi [110] (p.1,0)=ai p.1 (ch p.1.files [110]):=bD _ _;rw[es] at k4;generalize ai p.1 (bN p.1.files [110])=r at *;generalize ai p.1 (ch p.1.files [110])=w at *;have t5:=pI w.1 (k4.ok (by omega) (by omega)) [110] [109]
     generalize ai w.1 (i8 w.1.files [110] [109])=v at *;obtain⟨⟨f1,cp1,ar1,lf1,dn1⟩,e1⟩:=c;obtain⟨⟨f2,cp2,ar2,lf2,dn2⟩,e2⟩:=p;obtain⟨⟨f3,cp3,ar3,lf3,dn3⟩,e3⟩:=r;obtain⟨⟨f4,cp4,ar4,lf4,dn4⟩,e4⟩:=w;obtain⟨⟨f5,cp5,ar5,lf5,dn5⟩,e5⟩:=v;obtain⟨fy,cpy,ary,lfy,dny⟩:=y;obtain⟨fl,cp,ar,lf,dn⟩:=d;simp only[aK,Dsk.l] at q1 q2 t1 t2 t3 t4 t5 c3 ⊢;subst c3;by_cases c4:e2=9
     ·subst c4;rw[if_pos rfl];by_cases c5:e3=0
      ·subst c5;refine bh ?_ DX.eq_1 q0 q1 q2 t1 t2 t3;try simp[trim]
      ·refine bh ?_ DX.eq_1 q0 q1 q2 t1 t2 t3 c5;try simp[trim,c5]
     ·rw[if_neg c4];by_cases c5:e2=0
      ·subst c5;by_cases c6:e4=0
       ·subst c6;refine bh ?_ DX.eq_1 q0 q1 q2 t1 t2 t4 t5;try simp[trim]
       ·refine bh ?_ DX.eq_1 q0 q1 q2 t1 t2 t4 c6;try simp[trim,c6]
      ·refine bh ?_ DX.eq_1 q0 q1 q2 t1 t2 c4 c5;try simp[trim,c4,c5]
    ·rw[if_pos c3];obtain⟨⟨f1,cp1,ar1,lf1,dn1⟩,e1⟩:=c;obtain⟨fy,cpy,ary,lfy,dny⟩:=y;obtain⟨fl,cp,ar,lf,dn⟩:=d;simp only[aK,Dsk.l] at q1 q2 t1 c3 ⊢;refine bh ?_ DX.eq_1 q0 q1 q2 t1 c3;try simp[trim,c3]
   ·rw[if_pos c2];obtain⟨⟨fx,cpx,arx,lfx,dnx⟩,ex⟩:=x;obtain⟨fl,cp,ar,lf,dn⟩:=d;simp only[aK,Dsk.l] at q1 q2 c2 ⊢;refine bh ?_ DX.eq_1 q0 q1 q2 c2;try simp[trim,c2]
  | false =>
   rw[if_neg (by simp)]
   rw[ja c1] at q1;clear q2 k1;have k1:=hd;obtain⟨y,hy⟩:∃ y,y=d:=⟨_,rfl⟩;have q2:True:=trivial;rw[<- hy] at k1;have hyd:sK tx d=sK tx y:=by rw[hy]
   rw[hyd];have t1:=mI y (k1.ok (by omega) (by omega)) [110]
   have k2:=fG (s:=(y,0)) k1 [110];have ec:bR [110] (y,0)=ai y (bB y.files [110]):=bD _ _;rw[ec] at k2;unfold sK;simp only[];generalize ai y (bB y.files [110])=c at *;by_cases c3:c.2=0
   ·rw[if_neg (by simp[c3])]
    have t2:=pU c.1 (k2.ok (by omega) (by omega)) [110] tx (by omega)
    have k3:=jM (s:=(c.1,0)) k2 [110] tx;have ea:fL [110] tx (c.1,0)=ai c.1 (bM c.1.files c.1.cap [110] tx):=bD _ _;rw[ea] at k3;generalize ai c.1 (bM c.1.files c.1.cap [110] tx)=p at *;have t3:=jp p.1 (k3.ok (by omega) (by omega)) [110]
    have t4:=mw p.1 (k3.ok (by omega) (by omega)) [110]
    have k4:=lw (s:=(p.1,0)) k3 [110];have es:fi [110] (p.1,0)=ai p.1 (ch p.1.files [110]):=bD _ _;rw[es] at k4;generalize ai p.1 (bN p.1.files [110])=r at *;generalize ai p.1 (ch p.1.files [110])=w at *;have t5:=pI w.1 (k4.ok (by omega) (by omega)) [110] [109]
    generalize ai w.1 (i8 w.1.files [110] [109])=v at *;obtain⟨⟨f1,cp1,ar1,lf1,dn1⟩,e1⟩:=c;obtain⟨⟨f2,cp2,ar2,lf2,dn2⟩,e2⟩:=p;obtain⟨⟨f3,cp3,ar3,lf3,dn3⟩,e3⟩:=r;obtain⟨⟨f4,cp4,ar4,lf4,dn4⟩,e4⟩:=w;obtain⟨⟨f5,cp5,ar5,lf5,dn5⟩,e5⟩:=v;subst hy;obtain⟨fl,cp,ar,lf,dn⟩:=y;simp only[aK,Dsk.l] at q1 t1 t2 t3 t4 t5 c3 ⊢;subst c3;by_cases c4:e2=9
    ·subst c4;rw[if_pos rfl];by_cases c5:e3=0
     ·subst c5;refine bh ?_ DX.eq_1 q0 q1 t1 t2 t3;try simp[trim]
     ·refine bh ?_ DX.eq_1 q0 q1 t1 t2 t3 c5;try simp[trim,c5]
    ·rw[if_neg c4];by_cases c5:e2=0
     ·subst c5;by_cases c6:e4=0
      ·subst c6;refine bh ?_ DX.eq_1 q0 q1 t1 t2 t4 t5;try simp[trim]
      ·refine bh ?_ DX.eq_1 q0 q1 t1 t2 t4 c6;try simp[trim,c6]
     ·refine bh ?_ DX.eq_1 q0 q1 t1 t2 c4 c5;try simp[trim,c4,c5]
   ·rw[if_pos c3];obtain⟨⟨f1,cp1,ar1,lf1,dn1⟩,e1⟩:=c;subst hy;obtain⟨fl,cp,ar,lf,dn⟩:=y;simp only[aK,Dsk.l] at q1 t1 c3 ⊢;refine bh ?_ DX.eq_1 q0 q1 t1 c3;try simp[trim,c3]
 ·rw[if_pos c0];obtain⟨fl,cp,ar,lf,dn⟩:=d;simp only[aK,Dsk.l] at ⊢;refine bh ?_ DX.eq_1 q0 c0;try simp[trim,c0]
theorem MJ (d:Dsk):aH d=(let c:=ai d (bB d.files (fileN 0));if c.2≠0 then(⟨c.1,0,[],0,0,0,0⟩,c.2) else
  let w:=bT ⟨1,[0],0,0⟩ (c.1,0);if w.2≠0 then(⟨w.1,0,[],0,0,0,0⟩,w.2) else(⟨w.1,1,[⟨0,0,0⟩],0,0,0,0⟩,0)):=by
 unfold aH;have e0:bR (fileN 0) (d,0)=ai d (bB d.files (fileN 0)):=bD _ _;rw[e0];simp only[];generalize ai d (bB d.files (fileN 0))=c;by_cases h:c.2=0
 ·rw[if_pos h,if_neg (show ¬ (c.2≠0) from by simp[h]),<- lG h]
  generalize bT ⟨1,[0],0,0⟩ c=w;by_cases h2:w.2=0
  ·simp[h2]
  ·simp[h2]
 ·simp[h]
theorem w7 {k u:Nat} (d:Dsk) (hd:okN k u d) (hk:k<=800000) (hu:u<=800000000000):call 48 [.agg d.l] []=some (cf (aH d),[]):=by
 rw[MJ];have q1:=iw (n:=0) ⟨by decide,by decide⟩
 have q2:=mI d (hd.ok (by omega) (by omega)) (fileN 0)
 have k1:okN (k+1) u (ai d (bB d.files (fileN 0))).1:=by
  have:=fG (s:=(d,0)) hd (fileN 0);exact this
 have q3:=fun dd:Dsk=>Ge ⟨dd,1,[⟨0,0,0⟩],0,0,0,0⟩ (by simp)
 simp only[];generalize ai d (bB d.files (fileN 0))=c at *;have q3:=q3 c.1;have q4:=Cg c.1 k1 (by omega) (by omega) ⟨1,[0],0,0⟩ ⟨by simp,by simp⟩
 generalize bT ⟨1,[0],0,0⟩ (c.1,0)=w at *;apply ae WD rfl;generalize fileN 0=N at *;obtain⟨fl,cp,ar,lf,dn⟩:=d;obtain⟨⟨f1,cp1,ar1,lf1,dn1⟩,e1⟩:=c;obtain⟨⟨f3,cp3,ar3,lf3,dn3⟩,e3⟩:=w;simp only[aK,Dsk.l,Sto.l,Seg.enc,Sto.man,Man.l,List.cons_append,List.nil_append,List.map_cons,List.map_nil,eI] at q1 q2 q3 q4 ⊢;by_cases c1:e1=0
 ·subst c1;by_cases c3:e3=0
  ·subst c3;(simp(disch:=first|decide|omega|(intros;exact aP rfl rfl)|simp only[am]) only[fU,S8,q1,q2,↓qE,Kx,jV,wt,cL,q3,q4,go_sem,seval,aO,gL,A.kind,A.xs,co,A.isN])
   try simp[trim,cf,Sto.l,Dsk.l,Seg.enc]
  ·(simp(disch:=first|decide|omega|(intros;exact aP rfl rfl)|simp only[am]) only[fU,S8,q1,q2,↓qE,Kx,jV,wt,cL,q3,q4,c3,go_sem,seval,aO,gL,A.kind,A.xs,co,A.isN])
   try simp[trim,cf,Sto.l,Dsk.l,Seg.enc,c3]
 ·refine cm ?_ S8.eq_1 q1 q2 c1;try simp[trim,cf,Sto.l,Dsk.l,Seg.enc,c1]
theorem Nd (n:Int):(n != n)=false:=by simp
theorem JN (n:Bool):(n != n)=false:=by simp
theorem ng (s:Sto):call 17 [.agg s.l] []=some (vi s.floor,[]):=by
 apply ae W7 rfl;obtain⟨⟨fl,cp,ar,lf,dn⟩,ver,segs,next,sure,size,sum⟩:=s;unfold Sto.floor;cases segs with
 | nil=>(refine bd ?_ Vd.eq_1 @Sto.l.eq_1 @Dsk.l.eq_1;try exact True.intro)
 | cons g r =>
  refine bd ?_ Vd.eq_1 @Sto.l.eq_1 @Dsk.l.eq_1 @Seg.len @Seg.at0;try simp[trim]
theorem Jn {k u:Nat} (s:Sto) (h:okS k u s) (hk:k<=800000) (hu:u<=1000000) (g:Seg) (hg:g∈s.segs):call 41 [.agg s.l,.agg (g.enc.map .d)] []=some (vl ((cD (s.txt g) g.base).1.map fun x=>x.1.enc),[]):=by
 have hb:=(h.seg _ hg).1;have q1:=iw hb;have q2:=gv s.disk (Nat.le_trans h.dsk.len (by omega)) h.dsk.srt (fileN g.base)
 have hl:(s.txt g).length<=1000000:=Nat.le_trans (de _ _) (Nat.le_trans h.dsk.used hu);have q3:=pM (s.txt g) hl g.base (by omega)
 have e2:(az s.disk.files (fileN g.base)).1=s.txt g:=rfl;rw[e2] at q2;unfold i5 at q3;generalize (cD (s.txt g) g.base)=sc at *;generalize s.txt g=T at *;generalize (az s.disk.files (fileN g.base)).2=re at *;generalize fileN g.base=N at *;obtain⟨b,n,z⟩:=g;obtain⟨⟨fl,cp,ar,lf,dn⟩,ver,segs,next,sure,size,sum⟩:=s;simp only[Seg.enc,List.map_cons,List.map_nil,Sto.l,Dsk.l,List.cons_append,List.nil_append] at q1 q2 q3 ⊢;apply ae Wg rfl;refine bh ?_ VZ.eq_1 q1 q2 q3;try simp[trim]
def j6 (R:List Rec) (off:Int):V:=match R.find? (fun r=>decide (r.at_=off)) with
 | some r=>.tup [(true,r.enc.map .d),(false,[.d (.i .i64 0)])]
 | none=>.tup [(true,[.d (.i .i64 0),.d (.i .i64 0),.d (.s [])]),(false,[.d (.i .i64 11)])]
theorem Nq {r:Rec} {R:List Rec} {off:Int} (h:r.at_≠off):j6 (r::R) off=j6 R off:=by
 unfold j6;rw[List.find?_cons_of_neg (by simpa using h)]
theorem I5 {r:Rec} {R:List Rec} {off:Int} (h:r.at_=off):j6 (r::R) off=.tup [(true,r.enc.map .d),(false,[zI 0])]:=by
 unfold j6;rw[List.find?_cons_of_pos (by simpa using h)]
theorem Hu (N:List SR) (i:Nat) (h:i<N.length):aQ (N.drop i)=N[i].2++aQ (N.drop (i+1)):=by
 rw[zD h];rfl
def iY (f:Seg->Int):List Seg->Int
 | []=>0
 | g::r=>f g+iY f r
theorem HQ (f:Seg->Int) (u:Nat):∀ (l:List Seg),(∀ g∈l,0<=f g∧f g<=u)->0<=iY f l∧iY f l<=l.length*u
 | [],_=>by simp[iY]
 | x::r,h=>by
  have h1:=h x (by simp)
  have h2:=HQ f u r (fun g hg=>h g (by simp[hg]))
  simp only[iY,List.length_cons];rw[Int.natCast_add,Int.add_mul];omega
theorem IF (f:Seg->Int) (l:List Seg) (hl:l.length<=1000) (h:∀ g∈l,0<=f g∧f g<=(1000000000000:Nat)) (i:Nat):0<=iY f (l.take i)∧iY f (l.take i)<=1000000000000000:=by
 have:=HQ f 1000000000000 (l.take i) (fun g hg=>h g (zZ hg))
 have h2:(l.take i).length<=1000:=Nat.le_trans (List.length_take_le' _ _) hl;have h3:((l.take i).length:Int)*((1000000000000:Nat):Int)<=1000*1000000000000:=by omega
 omega
def KJ (l:List Seg) (keep count:Int):Bool:=decide (1<l.length) && (decide (keep<iY Seg.size (l.take (l.length-1))) || decide (count<iY Seg.n l))
def KV (l:List Seg):Prop:=l.length<=1000∧∀ g∈l,(0<=g.n∧g.n<=(1000000000000:Nat))∧(0<=g.size∧g.size<=(1000000000000:Nat))
def eZ (l:List Seg) (keep count:Int) (k:Nat):Bool := !KJ (l.drop k) keep count
def eR (l:List Seg) (keep count:Int):Nat:=match (List.range l.length).find? (eZ l keep count) with|some k=>k|none=>0
theorem ud (l:List Seg) (keep count:Int) (h:eR l keep count≠0):eR l keep count<l.length:=by
 unfold eR at *;cases hf:(List.range l.length).find? (eZ l keep count) with
 | none=>rw[hf] at h;exact absurd rfl h
 | some k=>simpa using List.mem_of_find?_eq_some hf
def Sto.scans (s:Sto):List SR:=s.segs.map fun g=>(g,(cD (s.txt g) g.base).1.map (·.1))
theorem GV {k u:Nat} {s:Sto} (h:okS k u s) (hu:u<=1000000):∀ p∈s.scans,p.2.length<=1000000:=by
 intro p hp;simp only[Sto.scans,List.mem_map] at hp;obtain⟨g,hg,rfl⟩:=hp;rw[zM];exact Nat.le_trans (n8 _ _) (Nat.le_trans (de _ _) (Nat.le_trans h.dsk.used hu))
def mO (s:Sto) (off:Int):V:=if off<0∨s.next<=off then .tup [(true,[zI 0,zI 0,.d (.s [])]),(false,[zI 6])] else j6 (aQ s.scans) off
theorem xp {k u:Nat} (s:Sto) (h:okS k u s) (hk:k<=800000) (hu:u<=1000000) (off:Int):call 18 [.agg s.l,vi off] []=some (mO s off,[]):=by
 have hall:=fun g hg=>Jn s h hk hu g hg
 have n1:s.segs=s.scans.map (·.1):=by rw[Sto.scans,List.map_map];exact(List.map_id s.segs).symm
 have n3:∀ p∈s.scans,((cD (s.txt p.1) p.1.base).1.map fun x=>x.1.enc)=p.2.map Rec.enc:=by
  intro p hp;simp only[Sto.scans,List.mem_map] at hp;obtain⟨g,hg,rfl⟩:=hp;simp
 have hlen:=h.len;have hcell:s.l=[.d (.l (s.disk.files.map Fil.enc)),zI s.disk.cap,zB s.disk.armed,zI s.disk.left,zB s.disk.down,zI s.ver,.d (.l (s.segs.map Seg.enc)),zI s.next,zI s.sure,zI s.size,zW s.sum]:=rfl;apply ae WQ rfl;rw[hcell] at hall ⊢;by_cases c1:off<0
 ·have e:mO s off=.tup [(true,[zI 0,zI 0,.d (.s [])]),(false,[zI 6])]:=by unfold mO;rw[if_pos (.inl c1)]
  rw[e];refine bh ?_ Th.eq_1 c1;try simp[trim]
 ·by_cases c2:s.next<=off
  ·have e:mO s off=.tup [(true,[zI 0,zI 0,.d (.s [])]),(false,[zI 6])]:=by unfold mO;rw[if_pos (.inr c2)]
   rw[e];refine bh ?_ Th.eq_1 c1 c2;try simp[trim]
  ·have e:mO s off=j6 (aQ s.scans) off:=by unfold mO;rw[if_neg (by omega)]
   rw[e];obtain⟨R,n2⟩:∃ R,aQ s.scans=R:=⟨_,rfl⟩;rw[n2];have hsc:=GV h hu;obtain⟨N,hN⟩:∃ N,N=s.scans:=⟨_,rfl⟩;rw[<- hN] at n1 n2 n3 hsc;obtain⟨Z,hZ⟩:∃ Z:V,Z=j6 R off:=⟨_,rfl⟩;rw[<- hZ];refine bh ?_ Th.eq_1 c1 c2;have hNl:N.length=s.segs.length:=by rw[n1];simp
   refine aq (m:=0) (σ:=Nat) (fun i=>N.length-i) (fun i=>i<=N.length∧j6 R off=j6 (aQ (N.drop i)) off) (fun i=>[vi off,V.one (.p 0 0),V.one (.p 1 0),vi i])
    (fun _=>[.cells [.d (.l (s.disk.files.map Fil.enc)),zI s.disk.cap,zB s.disk.armed,zI s.disk.left,zB s.disk.down,zI s.ver,.d (.l (s.segs.map Seg.enc)),zI s.next,zI s.sure,zI s.size,zW s.sum],.cells [zI 0,zI 0,.d (.s [])]]) (fun _=>(Z,[])) ?_ 0 ⟨zP _,by rw[List.drop_zero,n2]⟩ _ _ ?_
   rotate_left
   ·exact bA
   rintro i ⟨hi,hinv⟩ K hK;by_cases c3:i<N.length
   ·have ci:(i:Int)<(s.segs.length:Int):=by omega
    have hsi:s.segs[i]?=some N[i].1:=by rw[n1];simp[c3]
    have hmem:N[i].1∈s.segs:=List.mem_of_getElem? hsi;have g1:(s.segs.map Seg.enc)[i]?=some N[i].1.enc:=by rw[zG,hsi];rfl
    have g2:=hall _ hmem;rw[n3 _ (zN c3)] at g2;rw[Hu N i c3] at hinv;have hpl:N[i].2.length<=1000000:=hsc _ (zN c3);generalize N[i]=p at *;obtain⟨⟨pb,pn,pz⟩,pl⟩:=p;simp only[Seg.enc,List.map_cons,List.map_nil] at g1 g2 hinv hpl;refine bh ?_ K8.eq_1 ci g1 g2;refine aq (m:=0) (σ:=Nat) (fun j=>pl.length-j) (fun j=>j<=pl.length∧j6 R off=j6 (pl.drop j++aQ (N.drop (i+1))) off) (fun j=>[vi off,V.one (.p 0 0),V.one (.p 1 0),vi i,vl (pl.map Rec.enc),vi j])
     (fun _=>[.cells [.d (.l (s.disk.files.map Fil.enc)),zI s.disk.cap,zB s.disk.armed,zI s.disk.left,zB s.disk.down,zI s.ver,.d (.l (s.segs.map Seg.enc)),zI s.next,zI s.sure,zI s.size,zW s.sum],.cells [zI 0,zI 0,.d (.s [])]]) (fun _=>(Z,[])) ?_ 0 ⟨zP _,hinv⟩ _ _ ?_
    rotate_left
    ·exact bA
    rintro j ⟨hj,hinv2⟩ K2 hK2;by_cases c4:j<pl.length
    ·have cj:(j:Int)<(pl.length:Int):=by omega
     have g3:(pl.map Rec.enc)[j]?=some pl[j].enc:=by simp[c4]
     rw[zD c4,List.cons_append] at hinv2;generalize pl[j]=r at *;by_cases c5:r.at_=off
     ·rw[I5 c5] at hinv2;rw[hinv2] at hZ;obtain⟨ra,rt,rd⟩:=r;simp only[Rec.enc,List.map_cons,List.map_nil] at g3 c5 hZ;refine bh ?_ Be.eq_1 cj g3 c5;rw[hZ];try simp[trim,c5]
     ·rw[Nq c5] at hinv2;obtain⟨ra,rt,rd⟩:=r;simp only[Rec.enc,List.map_cons,List.map_nil] at g3 c5;refine bh ?_ Be.eq_1 cj g3 c5;exact hK2 (j+1) (by omega) ⟨by omega,hinv2⟩ _ _ bA
    ·have cj:¬ (j:Int)<(pl.length:Int):=by omega
     rw[List.drop_of_length_le (by omega),List.nil_append] at hinv2
     refine bh ?_ Be.eq_1 cj;exact hK (i+1) (by omega) ⟨by omega,hinv2⟩ _ _ bA
   ·have ci:¬ (i:Int)<(s.segs.length:Int):=by omega
    rw[List.drop_of_length_le (by omega)] at hinv
    have e:j6 (aQ []) off=.tup [(true,[zI 0,zI 0,.d (.s [])]),(false,[zI 11])]:=rfl;rw[e] at hinv;rw[hinv] at hZ;refine bh ?_ K8.eq_1 ci;rw[hZ];try simp[trim]
def aC (n:Int):Txt:=fT 116 n.toNat
theorem nG {n:Int} (h:0<=n∧n<=1099511627776):call 108 [vi n] []=some (vs (aC n),[]):=by
 apply ae T2 rfl;have h1:=xd 116 n.toNat (by omega)
 have e:(((116:UInt8).toNat:Nat):Int)=116:=rfl;have e2:((n.toNat:Nat):Int)=n:=by omega
 rw[e,e2] at h1;have e3:aC n=fT 116 n.toNat:=rfl;rw[e3];refine bd ?_ Sh.eq_1 h1;try simp[trim]
theorem wF {n:Int} (h:0<=n∧n<=1099511627776):call 29 [vi n] []=some (vs (aC n),[]):=by
 have h1:=sO n.toNat (by omega)
 have e:((n.toNat:Nat):Int)=n:=by omega
 rw[e] at h1;have e2:aC n=116::gS n.toNat 13:=by
  unfold aC fT gS;congr 1
 have hl:(gS n.toNat 13).length=13:=by simp[gS]
 rw[e2];generalize gS n.toNat 13=T at *;have c1:¬ n<0:=by omega
 have c2:¬ (1099511627776:Int)<n:=by omega
 apply ae Xd rfl;refine bd ?_ VJ.eq_1 c1 c2 h1 hl;try simp[trim]
theorem fD {k u:Nat} {s:Sto} (h:okS k u s):0<=s.floor∧s.floor<=1099511627776:=by
 have:=h.len;unfold Sto.floor;split
 ·omega
 ·rename_i g r he;exact(h.seg g (by rw[he];simp)).1
def cU (s:Sto):Txt:=if s.floor=0 then[] else(az s.disk.files (aC s.floor)).1
theorem F9 {k u:Nat} (s:Sto) (h:okS k u s) (hk:k<=800000):call 43 [.agg s.l] []=some (vs (cU s),[]):=by
 have hf:=ng s;have hn:=wF (fD h);have hr:=gv s.disk (Nat.le_trans h.dsk.len (by omega)) h.dsk.srt (aC s.floor)
 have e:cU s=if s.floor=0 then[] else(az s.disk.files (aC s.floor)).1:=rfl
 rw[e];generalize s.floor=fl at *;generalize aC fl=N at *;generalize az s.disk.files N=rf at *;have hcell:s.l=[.d (.l (s.disk.files.map Fil.enc)),zI s.disk.cap,zB s.disk.armed,zI s.disk.left,zB s.disk.down,zI s.ver,.d (.l (s.segs.map Seg.enc)),zI s.next,zI s.sure,zI s.size,zW s.sum]:=rfl;have hd:s.disk.l=[.d (.l (s.disk.files.map Fil.enc)),zI s.disk.cap,zB s.disk.armed,zI s.disk.left,zB s.disk.down]:=rfl;apply ae Wq rfl;rw[hcell] at hf ⊢;rw[hd] at hr;by_cases c:fl=0
 ·rw[if_pos c];refine bh ?_ UL.eq_1 hf c;try simp[trim]
 ·rw[if_neg c];have c':(fl == 0)=false:=by simpa using c
  refine bh ?_ UL.eq_1 hf hn hr c';try simp[trim]
theorem Jo (t:List UInt8) (h:(ib t).2=0):whyF (ib t).1=0:=by
 unfold ib at *;split at h
 ·exact absurd h (by decide)
 ·split at h
  ·exact absurd h (by decide)
  ·rename_i n k _ _ m j _;by_cases c:whyF ⟨n,m,t.drop (k+j)⟩=0
   ·simp only[if_pos c];exact c
   ·simp only[if_neg c] at h;exact absurd h c
theorem vL (s:List UInt8):∀ (f a:Nat) (b:Int),∀ x∈(bH f s a b).1,whyF x.1=0
 | 0,a,b,x,hx=>by simp[bH] at hx
 | f+1,a,b,x,hx=>by
  by_cases ha:a<s.length
  ·obtain⟨⟨t,n,e⟩,hn⟩:∃ y,dV s a=y:=⟨_,rfl⟩;by_cases he:e=0
   ·subst he;by_cases hg:(ib t).2=0
    ·by_cases hb:(ib t).1.at_=b
     ·rw[eD ha hn hg hb] at hx;rcases List.mem_cons.1 hx with rfl|hx
      ·exact Jo t hg
      ·exact vL s f n (b+1) x hx
     ·rw[gG ha hn hg hb] at hx;cases hx
    ·rw[gI ha hn hg] at hx;cases hx
   ·rw[eG ha hn he] at hx;cases hx
  ·rw[ep (Nat.not_lt.1 ha)] at hx;cases hx
theorem AO (s:List UInt8) (b:Int):∀ x∈(cD s b).1,whyF x.1=0:=by
 intro x hx;unfold cD at hx;split at hx
 ·exact vL s _ _ _ x hx
 ·cases hx
theorem zn {r:Rec} (h:whyF r=0):r.da.length<=64:=by
 unfold whyF at h;split at h
 ·split at h
  ·assumption
  ·exact absurd h (by decide)
 ·exact absurd h (by decide)
def jU (s:Sto) (off:Int):List UInt8:=if off<0∨s.next<=off then[] else match (aQ s.scans).find? (fun r=>decide (r.at_=off)) with
 | some r=>r.da
 | none=>[]
theorem MW (s:Sto) (off:Int):∃ a b e,mO s off=.tup [(true,[zI a,zI b,zS (jU s off)]),(false,[zI e])]:=by
 unfold mO jU;split
 ·exact⟨_,_,_,rfl⟩
 ·unfold j6;cases (aQ s.scans).find? (fun r=>decide (r.at_=off)) with
  | none=>exact⟨_,_,_,rfl⟩
  | some r=>exact⟨r.at_,r.ti,0,rfl⟩
theorem Ay (s:Sto) (off:Int):(jU s off).length<=64:=by
 unfold jU;split
 ·simp
 ·cases hf:(aQ s.scans).find? (fun r=>decide (r.at_=off)) with
  | none=>simp
  | some r =>
   have hm:=List.mem_of_find?_eq_some hf;simp only[aQ,Sto.scans,List.flatMap_map,List.mem_flatMap,List.mem_map] at hm;obtain⟨g,_,x,hx,rfl⟩:=hm;exact zn (AO _ _ x hx)
theorem EB (P Q:Pr->Bool) (h:∀ p,P p=true->Q p=false):∀ l:List Pr,(l.takeWhile P).length+(l.filter Q).length<=l.length
 | []=>by simp
 | x::r=>by
  rw[List.takeWhile_cons,List.filter_cons];by_cases hp:P x=true
  ·have hq:=h x hp;have:=EB P Q h r;simp[hp,hq];omega
  ·have h2:(r.filter Q).length<=r.length:=List.length_filter_le _ _;rw[if_neg hp];by_cases hq:Q x=true <;> simp[hq] <;> omega
theorem step_len (l:List Pr) (d:List UInt8):(cT l d).length<=l.length+1:=by
 cases d with
 | nil=>simp[cT]
 | cons c r =>
  have h1:=EB (fun p=>decide (p.key<(c.toNat:Int))) (fun p=>decide ((c.toNat:Int)<p.key)) (fun p hp=>by simp at hp ⊢;omega) l
  simp only[cT,zA];split <;> simp at h1 ⊢ <;> omega
def okP (l:List Pr):Prop:=∀ p∈l,(0<=p.key∧p.key<256)∧p.val.length<=64
theorem step_ok {l:List Pr} (h:okP l) {d:List UInt8} (hd:d.length<=64):okP (cT l d):=by
 cases d with
 | nil=>exact h
 | cons c r =>
  intro p hp;simp only[cT,zX] at hp;rcases hp with(hp|hp)|hp
  ·exact h p ((List.takeWhile_sublist _).subset hp)
  ·split at hp
   ·cases hp
   ·rw[zV] at hp;subst hp;have:=UInt8.toNat_lt c;simp at hd;exact⟨⟨by simp only[];omega,by simp only[];omega⟩,by simp only[];omega⟩
  ·exact h p (List.mem_filter.1 hp).1
theorem Eu (s:List UInt8):∀ (n a:Nat) (out:List Pr) (r:List Pr × Nat),eg s n a out=some r->(∀ p∈out,0<=p.key∧p.key<256)->(∀ p∈r.1,0<=p.key∧p.key<256)∧r.1.length=out.length+n
 | 0,a,out,r,h,ho=>by simp only[eg] at h;cases h;exact⟨ho,rfl⟩
 | n+1,a,out,r,h,ho=>by
  simp only[eg] at h;split at h
  ·rename_i p b hp;have hk:0<=p.key∧p.key<256:=by
    unfold lT at hp;split at hp
    ·split at hp
     ·cases hp
     ·cases hp;have:=UInt8.toNat_lt (s[a]?.getD 0);exact⟨by simp only[];omega,by simp only[];omega⟩
    ·cases hp
   have:=Eu s n b (out++[p]) r h (fun q hq=>by
    rcases zX.1 hq with hq|hq
    ·exact ho q hq
    ·rw[zV.1 hq];exact hk)
   refine⟨this.1,?_⟩;rw[this.2];simp;omega
  ·cases h
theorem Hn {l:List Pr} (h:dB l=true):∀ p∈l,p.val.length<=64:=by
 intro p hp;obtain⟨i,hi,rfl⟩:=zJ hp;have:=(List.all_eq_true.1 h) i (by simpa using hi)
 simp only[oR,zE hi,qD,Bool.and_eq_true,decide_eq_true_eq] at this;omega
theorem qw {s:List UInt8} {l:List Pr} (h:aU s=some l):okP l∧l.length<=256:=by
 unfold aU at h;split at h
 ·rename_i n k _;split at h
  ·cases h
  ·rename_i hn;unfold iR at h;split at h
   ·rename_i out a ho;split at h
    ·rename_i hc;cases h;have:=Eu s n k [] _ ho (fun p hp=>by cases hp)
     have hv:=Hn hc.2;refine⟨fun p hp=>⟨this.1 p hp,hv p hp⟩,?_⟩
     rw[this.2];simp;omega
    ·cases h
   ·cases h
 ·cases h
def rO (s:Sto):Nat->Int->List Pr->List Pr
 | 0,_,l=>l
 | n+1,i,l=>rO s n (i+1) (cT l (jU s i))
def bC (s:Sto) (off:Int):List Pr:=rO s (off-s.floor).toNat s.floor ((aU (cU s)).getD [])
theorem Jh (s:Sto):∀ (n:Nat) (i:Int) (l:List Pr),okP l->okP (rO s n i l)∧(rO s n i l).length<=l.length+n
 | 0,i,l,h=>⟨h,by simp[rO]⟩
 | n+1,i,l,h=>by
  have h1:=Jh s n (i+1) (cT l (jU s i)) (step_ok h (Ay s i));have h2:=step_len l (jU s i);exact⟨h1.1,by simp only[rO];omega⟩
theorem BB (s:Sto) (off:Int):okP (bC s off)∧(bC s off).length<=256+(off-s.floor).toNat:=by
 have h:okP ((aU (cU s)).getD [])∧((aU (cU s)).getD []).length<=256:=by
  cases hp:aU (cU s) with
  | none=>exact⟨fun p hp=>(by simp at hp),by simp⟩
  | some l=>exact qw hp
 have:=Jh s (off-s.floor).toNat s.floor _ h.1;exact⟨this.1,by unfold bC;omega⟩
theorem CW {k u:Nat} (s:Sto) (h:okS k u s) (hk:k<=800000) (hu:u<=1000000) (off:Int) (ho:off<=s.floor+100000):call 20 [.agg s.l,vi off] []=some (vl ((bC s off).map Pr.enc),[]):=by
 have hf:=ng s;have hfb:=fD h;have hs:=F9 s h hk;have hsl:(cU s).length<=1000000:=by
  unfold cU;split
  ·simp
  ·exact Nat.le_trans (de _ _) (Nat.le_trans h.dsk.used hu)
 have hp:=FV (cU s) (by omega)
 have hpv:∃ ok:Bool,dp (aU (cU s))=.tup [(false,[.d (.l (((aU (cU s)).getD []).map Pr.enc))]),(false,[zB ok])]:=by
  cases aU (cU s) with
  | none=>exact⟨false,rfl⟩
  | some l=>exact⟨true,rfl⟩
 have hl0:((aU (cU s)).getD []).length<=256:=by
  cases hp:aU (cU s) with
  | none=>simp
  | some l=>exact(qw hp).2
 have hg:=fun i=>xp s h hk hu i
 obtain⟨Z,hZ⟩:∃ Z:V,Z=vl ((bC s off).map Pr.enc):=⟨_,rfl⟩;rw[<- hZ];have hZ':Z=vl ((rO s (off-s.floor).toNat s.floor ((aU (cU s)).getD [])).map Pr.enc):=hZ;clear hZ;obtain⟨ok,hpv⟩:=hpv;rw[hpv] at hp;generalize (aU (cU s)).getD []=l0 at *;generalize cU s=sn at *;have hcell:s.l=[.d (.l (s.disk.files.map Fil.enc)),zI s.disk.cap,zB s.disk.armed,zI s.disk.left,zB s.disk.down,zI s.ver,.d (.l (s.segs.map Seg.enc)),zI s.next,zI s.sure,zI s.size,zW s.sum]:=rfl;apply ae WX rfl;rw[hcell] at hf hs hg ⊢;obtain⟨fl,hfl⟩:∃ fl,fl=s.floor:=⟨_,rfl⟩;rw[<- hfl] at hf hfb hZ' ho;refine bh ?_ Uf.eq_1 hf hs hp;refine aq (m:=0) (σ:=Int × List Pr) (fun t=>(off-t.1).toNat) (fun t=>fl<=t.1∧t.2.length<=256+(t.1-fl).toNat∧Z=vl ((rO s (off-t.1).toNat t.1 t.2).map Pr.enc)) (fun t=>[vi off,V.one (.p 0 0),vl (t.2.map Pr.enc),vi t.1])
  (fun _=>[.cells [.d (.l (s.disk.files.map Fil.enc)),zI s.disk.cap,zB s.disk.armed,zI s.disk.left,zB s.disk.down,zI s.ver,.d (.l (s.segs.map Seg.enc)),zI s.next,zI s.sure,zI s.size,zW s.sum]]) (fun _=>(Z,[])) ?_ (fl,l0) ⟨Int.le_refl _,by simp only[];omega,hZ'⟩ _ _ bA
 rintro⟨i,l⟩ ⟨h1,h2,h3⟩ R hR;simp only at h1 h2 h3;by_cases hi:i<off
 ·obtain⟨n,hn⟩:∃ n,(off-i).toNat=n+1:=⟨(off-i).toNat-1,by omega⟩
  rw[hn,rO] at h3;obtain⟨a,b,e,he⟩:=MW s i;have hgi:=hg i;rw[he] at hgi;have hst:=step_ref l (by omega) (jU s i) (Nat.le_trans (Ay s i) (by decide))
  have hsl:=step_len l (jU s i);have hR':=hR (i+1,cT l (jU s i)) (by simp only[];omega) ⟨by simp only[];omega,by simp only[];omega,by simp only[];rw[show(off-(i+1)).toNat=n by omega];exact h3⟩
  generalize cT l (jU s i)=l1 at *;generalize jU s i=dd at *;refine bh ?_ In.eq_1 (zT hi) hgi hst;exact hR' _ _ bA
 ·have e:(off-i).toNat=0:=by omega
  rw[e,rO] at h3;rw[h3];refine bh ?_ In.eq_1 Uf.eq_1 (zF hi);try simp[trim]
def cE (x:Txt):Int:=(((cr 0#32 x).toNat:Nat):Int)
theorem qG (x:Txt):0<=cE x∧cE x<4294967296:=by
 have:=(cr 0#32 x).isLt;unfold cE;omega
def mU (d:Dsk) (n x:Txt) (m:Man):Dsk × Int :=
 let a:=bR n (d,0)
 let b:=if a.2=0 then cV n (fL n x a) else a
 let c:=fi n b
 if c.2=0 then cV n (bT m c) else c
def AY (l:List Seg) (s:Dsk × Int):Dsk × Int:=l.foldl (fun s g=>dH (fileN g.base) s) s
def xY (s:Sto) (k:Nat) (q:Dsk × Int):Dsk × Int :=
 let r:=AY (s.segs.take k) q
 if r.2=0∧0<s.floor then dH (aC s.floor) r else r
def aL (l:List Seg) (k:Nat):Int:=match l[k]? with|some g=>g.base|none=>0
def eJ (s:Sto) (k:Nat):Sto:={ s with ver:=s.ver+1,segs:=s.segs.drop k,size:=((aX (bC s (aL s.segs k))).length:Nat),sum:=cE (aX (bC s (aL s.segs k))) }
def sI (s:Sto) (k:Nat):Sto × Int :=
 let e:=mU s.disk (aC (aL s.segs k)) (aX (bC s (aL s.segs k))) (eJ s k).man
 if e.2≠0 then({ s with disk:=e.1 },e.2) else({ eJ s k with disk:=(xY s k e).1 },(xY s k e).2)
def cY (s:Sto) (keep count:Int):Sto × Int:=if eR s.segs keep count=0 then(s,0) else sI s (eR s.segs keep count)
theorem yc {k u:Nat}:∀ (l:List Seg) (s:Dsk × Int),okN k u s.1->okN k u (AY l s).1
 | [],s,h=>h
 | g::l,s,h=>yc l _ (dX h _)
theorem O6 {k u:Nat} {s:Sto} {n:Nat} {q:Dsk × Int} (h:okN k u q.1):okN k u (xY s n q).1:=by
 unfold xY;simp only[];split
 ·exact dX (yc _ _ h) _
 ·exact yc _ _ h
theorem IE {k u:Nat} {d:Dsk} (h:okN k u d) (n x:Txt) (m:Man):okN (k+2) (u+x.length+800) (mU d n x m).1:=by
 unfold mU;simp only[];have h1:=fG (s:=(d,0)) h n;have h2:okN (k+1) (u+x.length) (if(bR n (d,0)).2=0 then cV n (fL n x (bR n (d,0))) else bR n (d,0)).1:=by
  split
  ·exact mb (jM h1 n x) n
  ·exact h1.up (by omega) (by omega)
 generalize (if(bR n (d,0)).2=0 then cV n (fL n x (bR n (d,0))) else bR n (d,0))=b at *
 have h3:=lw h2 n;split
 ·exact mb (iS h3 m) n
 ·exact h3.up (by omega) (by omega)
theorem B7 (n:Nat) (h:n<9223372036854775808):(ah n).length<=9:=eC h
theorem so {l:List Pr} (h:okP l) (hl:l.length<=1000000):(aX l).length<=9+74*l.length:=by
 have h1:∀ l:List Pr,okP l->(l.flatMap jc).length<=74*l.length:=by
  intro l;induction l with
  | nil=>intro _;simp
  | cons p r ih =>
   intro h;have hp:=(h p (by simp)).2
   have hr:=ih (fun q hq=>h q (by simp[hq]))
   have he:=B7 p.val.length (by omega)
   rw[List.flatMap_cons,zA];simp only[jc,List.length_cons,zA];omega
 have h2:=h1 l h;have h3:=B7 l.length (by omega)
 unfold aX;rw[zA];omega
theorem jz {l:List Seg} {k:Nat} (h:k<l.length):l[k]?=some l[k]∧aL l k=l[k].base:=by
 have e:l[k]?=some l[k]:=zE h;exact⟨e,by unfold aL;rw[e]⟩
theorem yg {k u:Nat} {s:Sto} (h:okS k u s) {n:Nat} (hn:n<s.segs.length):0<=aL s.segs n∧aL s.segs n<=1099511627776:=by
 rw[(jz hn).2];exact(h.seg _ (zN hn)).1
theorem Ic {k u:Nat} {s:Sto} (h:okS k u s) {n:Nat} (hn:n<s.segs.length) (hb:aL s.segs n<=s.floor+40):okS (k+2) (u+23000) (sI s n).1:=by
 have hs:=BB s (aL s.segs n);have hlen:=so hs.1 (by omega)
 have hl:=IE h.dsk (aC (aL s.segs n)) (aX (bC s (aL s.segs n))) (eJ s n).man;have hl':=hl.up (k':=k+2) (u':=u+23000) (Nat.le_refl _) (by omega)
 unfold sI;simp only[];split
 ·exact⟨hl',h.len,fun g hg=>by have:=h.seg g hg;omega,h.next,by have:=h.ver;simp only[];omega,h.sum⟩
 ·refine⟨O6 hl',?_,fun g hg=>?_,h.next,?_,qG _⟩
  ·show 1<=(s.segs.drop n).length∧(s.segs.drop n).length<=64;have:=h.len;simp;omega
  ·have:=h.seg g (List.mem_of_mem_drop hg);omega
  ·show 0<=s.ver+1∧s.ver+1<=((u+23000:Nat):Int);have:=h.ver;omega
abbrev FM:=Txt->Option (Txt × Int)
def fm (l:List Fil):FM:=fun n=>(l.find? fun f=>decide (f.name=n)).map fun f=>(f.data,f.sure)
def up (F:FM) (n:Txt) (v:Option (Txt × Int)):FM:=fun k=>if k=n then v else F k
theorem db (F:FM) (n:Txt) (v:Option (Txt × Int)):up F n v n=v:=if_pos rfl
theorem bv (F:FM) {n k:Txt} (v:Option (Txt × Int)) (h:k≠n):up F n v k=F k:=if_neg h
theorem jk (F:FM) (n:Txt) (v w:Option (Txt × Int)):up (up F n v) n w=up F n w:=by
 funext k;unfold up;split <;> rfl
theorem mK {F:FM} {n:Txt} {v:Option (Txt × Int)} (h:F n=v):up F n v=F:=by
 funext k;unfold up;split
 ·rename_i e;rw[e,h]
 ·rfl
theorem tC {l:List Fil} {n:Txt}:fm l n=none↔∀ f∈l,f.name≠n:=by
 unfold fm;rw[Option.map_eq_none_iff,List.find?_eq_none];simp
theorem Ds (A:List Fil) (x:Fil) (B:List Fil) (h:∀ a∈A,a.name≠x.name):fm (A++x::B)=up (fm (A++B)) x.name (some (x.data,x.sure)):=by
 funext k
 unfold fm up;simp only[List.find?_append,List.find?_cons];by_cases c:k=x.name
 ·have hn:A.find? (fun f=>decide (f.name=k))=none:=by
   rw[List.find?_eq_none];intro a ha;simpa[c] using h a ha
  rw[if_pos c,hn];simp[c]
 ·rw[if_neg c];have:decide (x.name=k)=false:=by simpa using fun e=>c e.symm
  rw[this]
theorem Ee {l:List Fil} (hs:srt l) {i:Nat} (hi:i<l.length):(∀ a∈l.take i,a.name≠l[i].name)∧(∀ b∈l.drop (i+1),b.name≠l[i].name):=by
 constructor
 ·intro a ha;obtain⟨j,hj,rfl⟩:=zJ ha;rw[zQ] at hj;rw[List.getElem_take];exact Bi ((List.pairwise_iff_getElem.1 hs) j i (by omega) hi (by omega))
 ·intro b hb;obtain⟨j,hj,rfl⟩:=zJ hb;rw[zH] at hj;rw[List.getElem_drop];exact fun e=>Bi ((List.pairwise_iff_getElem.1 hs) i (i+1+j) hi (by omega) (by omega)) e.symm
theorem Nt (l:List Fil) {i:Nat} (hi:i<l.length):l=l.take i++l[i]::l.drop (i+1):=by
 conv=>lhs;rw[<- zY i l,zD hi]
theorem rP {l:List Fil} (hs:srt l) {i:Nat} (hi:i<l.length):fm l=up (fm (fI l i)) l[i].name (some (l[i].data,l[i].sure))∧fm (fI l i) l[i].name=none:=by
 have h:=Ee hs hi;constructor
 ·conv=>lhs;rw[Nt l hi]
  exact Ds _ _ _ h.1
 ·rw[tC];intro f hf;rcases zX.1 hf with hf|hf
  ·exact h.1 f hf
  ·exact h.2 f hf
theorem KY {l:List Fil} (hs:srt l) {i:Nat} (hi:i<l.length):fm (fI l i)=up (fm l) l[i].name none:=by
 have h:=rP hs hi;rw[h.1,jk,mK h.2]
theorem K5 {l:List Fil} (hs:srt l) {i:Nat} (hi:i<l.length) (g:Fil) (hg:g.name=l[i].name):fm (l.set i g)=up (fm l) l[i].name (some (g.data,g.sure)):=by
 have h:=Ee hs hi;have e:l.set i g=l.take i++g::l.drop (i+1):=by rw[List.set_eq_take_append_cons_drop,if_pos hi]
 rw[e,Ds _ _ _ (fun a ha=>by rw[hg];exact h.1 a ha),hg]
 have h2:=rP hs hi;rw[h2.1,jk];try rfl
theorem mj {l:List Fil} (hs:srt l) (n:Txt):bS l n=(fm l n).isSome:=by
 cases h:bS l n with
 | true =>
  obtain⟨hp,he⟩:=cq h;rw[(rP hs hp).1,he,db];rfl
 | false =>
  rw[tC.2 (oh hs h)];rfl
theorem xU {l:List Fil} (hs:srt l) {n:Txt} {v:Txt × Int} (h:fm l n=some v):∃ hp:au l n<l.length,l[au l n].name=n∧(l[au l n].data,l[au l n].sure)=v:=by
 have h1:bS l n=true:=by rw[mj hs,h];rfl
 obtain⟨hp,he⟩:=cq h1;refine⟨hp,he,?_⟩;have h2:=(rP hs hp).1;rw[h2,he,db] at h;exact Option.some.inj h
theorem kG {l:List Fil} (hs:srt l) (n:Txt):az l n=match fm l n with|some v=>(v.1,0)|none=>([],7):=by
 cases h:fm l n with
 | some v =>
  obtain⟨hp,he,hv⟩:=xU hs h;subst hv;unfold az;rw[zE hp];simp only[if_pos he]
 | none =>
  have h1:bS l n=false:=by rw[mj hs,h];rfl
  unfold az;unfold bS at h1;split
  ·rename_i f hf;rw[hf] at h1;rw[if_neg (by simpa using h1)]
  ·rfl
theorem jx {l:List Fil} (hs:srt l) (n d:Txt):hasD l n d↔∃ q,fm l n=some (d,q):=by
 constructor
 ·rintro⟨f,hf,rfl,rfl⟩;obtain⟨i,hi,rfl⟩:=zJ hf;exact⟨l[i].sure,by rw[(rP hs hi).1,db]⟩
 ·rintro⟨q,h⟩;obtain⟨hp,he,hv⟩:=xU hs h;exact⟨l[au l n],zN hp,he,congrArg Prod.fst hv⟩
theorem J6 {l:List Fil} (hs:srt l) {n:Txt} (d:Txt) (q:Int) (h:fm l n=none):fm (hJ l (au l n) ⟨n,d,q⟩)=up (fm l) n (some (d,q)):=by
 have h2:=tC.1 h;unfold hJ;rw[Ds _ _ _ (fun a ha=>h2 a (zZ ha)),zY]
theorem PU {l:List Fil} (hs:srt l) (f:Fil):fm (jm l f)=up (fm l) f.name (some (f.data,f.sure)):=by
 unfold jm;split
 ·rename_i h;obtain⟨hp,he⟩:=cq h;rw[K5 hs hp f he.symm,he]
 ·rename_i h;have h1:fm l f.name=none:=by
   cases hf:fm l f.name with
   | none=>rfl
   | some v=>exact absurd (by rw[mj hs,hf];rfl) h
  obtain⟨n,d,q⟩:=f;exact J6 hs d q h1
structure Dk (d d':Dsk):Prop where
 cap:d'.cap=d.cap
 armed:d'.armed=d.armed
 down:d.down=true->d'=d
 idle:d.armed=false->d.down=false->d'.down=false∧d'.left=d.left
theorem Dk.refl (d:Dsk):Dk d d:=⟨rfl,rfl,fun _=>rfl,fun _ h=>⟨h,rfl⟩⟩
theorem Dk.trans {a b c:Dsk} (h1:Dk a b) (h2:Dk b c):Dk a c :=
  ⟨h2.cap.trans h1.cap,h2.armed.trans h1.armed,fun h=>by have e:=h1.down h;rw[h2.down (by rw[e];exact h),e],
   fun ha hd=>by
    have e1:=h1.idle ha hd
    have e2:=h2.idle (h1.armed.trans ha) e1.1
    exact⟨e2.1,e2.2.trans e1.2⟩⟩
def Out (d:Dsk) (r:Dsk × Int) (X:List Txt) (G:FM) (G9:Option FM):Prop :=
 Dk d r.1∧srt r.1.files∧((r.2=0∧r.1.down=false∧fm r.1.files=G)∨(∃ g,G9=some g∧r.2=9∧r.1.down=false∧fm r.1.files=g)∨(r.2=10∧r.1.down=true∧∀ n,n ∉ X->fm r.1.files n=fm d.files n))
theorem Out.up9 {d:Dsk} {r:Dsk × Int} {X:List Txt} {G:FM} (h:Out d r X G none) (g:Option FM):Out d r X G g:=by
 refine⟨h.1,h.2.1,?_⟩;rcases h.2.2 with h|⟨_,h,_⟩|h
 ·exact .inl h
 ·cases h
 ·exact .inr (.inr h)
theorem Out.upX {d:Dsk} {r:Dsk × Int} {X Y:List Txt} {G:FM} {g:Option FM} (h:Out d r X G g) (hx:∀ n∈X,n∈Y):Out d r Y G g:=by
 refine⟨h.1,h.2.1,?_⟩;rcases h.2.2 with h|h|h
 ·exact .inl h
 ·exact .inr (.inl h)
 ·exact .inr (.inr ⟨h.1,h.2.1,fun n hn=>h.2.2 n (fun hm=>hn (hx n hm))⟩)
theorem n9 {d:Dsk} (hs:srt d.files) {r:List Fil × Int} {G:FM} (h0:r.2=0) (h1:srt r.1) (h2:fm r.1=G):Out d (ai d r) [] G none:=by
 unfold ai;split
 ·rename_i hd;exact⟨Dk.refl d,hs,.inr (.inr ⟨rfl,hd,fun _ _=>rfl⟩)⟩
 ·rename_i hd;have hd:d.down=false:=by simpa using hd
  rw[if_neg (by simp[h0])]
  split
  ·rename_i ha;split
   ·exact⟨⟨rfl,rfl,fun h=>(by rw[hd] at h;cases h),fun h _=>(by rw[ha] at h;cases h)⟩,hs,.inr (.inr ⟨rfl,rfl,fun _ _=>rfl⟩)⟩
   ·exact⟨⟨rfl,rfl,fun h=>(by rw[hd] at h;cases h),fun h _=>(by rw[ha] at h;cases h)⟩,h1,.inl ⟨rfl,hd,h2⟩⟩
  ·exact⟨⟨rfl,rfl,fun h=>(by rw[hd] at h;cases h),fun _ h=>⟨h,rfl⟩⟩,h1,.inl ⟨rfl,hd,h2⟩⟩
theorem nQ {d:Dsk} (hs:srt d.files) {n:Txt} (hn:dU n=true) (h:fm d.files n=none):Out d (ai d (bB d.files n)) [] (up (fm d.files) n (some ([],0))) none:=by
 have hf:bS d.files n=false:=by rw[mj hs,h];rfl
 have e:bB d.files n=(hJ d.files (au d.files n) ⟨n,[],0⟩,0):=by unfold bB;rw[if_pos hn,hf];rfl
 rw[e];exact n9 hs rfl (yn hs ⟨n,[],0⟩ hf) (J6 hs [] 0 h)
theorem DO {l:List Fil} (hs:srt l) {n:Txt} {v:Txt × Int} (h:fm l n=some v) (f:Fil->Fil) (hf:∀ x,(f x).name=x.name) :
  srt (ou l (au l n) f)∧fm (ou l (au l n) f)=up (fm l) n (some ((f ⟨n,v.1,v.2⟩).data,(f ⟨n,v.1,v.2⟩).sure)):=by
 obtain⟨hp,he,hv⟩:=xU hs h;refine⟨jK (nV l _ f hf) hs,?_⟩;have e2:l[au l n]=⟨n,v.1,v.2⟩:=by
  generalize l[au l n]=x at *;obtain⟨a,b,c⟩:=x;simp only at he hv;subst he hv;try rfl
 rw[ji hp,K5 hs hp _ (by rw[hf]),he,e2]
theorem t7 {d:Dsk} (hs:srt d.files) {n:Txt} (x:Txt) {v:Txt × Int} (h:fm d.files n=some v):Out d (ai d (bM d.files d.cap n x)) [] (up (fm d.files) n (some (v.1++x,v.2))) (some (fm d.files)):=by
 have hf:bS d.files n=true:=by rw[mj hs,h];rfl
 by_cases c:0<d.cap∧d.cap-(usedF d.files:Nat)<x.length
 ·have e:bM d.files d.cap n x=([],9):=by unfold bM;rw[if_pos hf,if_pos c]
  rw[e];unfold ai;split
  ·rename_i hd;exact⟨Dk.refl d,hs,.inr (.inr ⟨rfl,hd,fun _ _=>rfl⟩)⟩
  ·rename_i hd;rw[if_pos (by decide)]
   exact⟨Dk.refl d,hs,.inr (.inl ⟨_,rfl,rfl,by simpa using hd,rfl⟩)⟩
 ·have e:bM d.files d.cap n x=(ou d.files (au d.files n) (fun f=>{ f with data:=f.data++x }),0):=by unfold bM;rw[if_pos hf,if_neg c]
  have hu:=DO hs h (fun f=>{ f with data:=f.data++x }) (fun _=>rfl)
  rw[e];exact(n9 hs rfl hu.1 hu.2).up9 _
theorem my {d:Dsk} (hs:srt d.files) {n:Txt} {v:Txt × Int} (h:fm d.files n=some v):Out d (ai d (ch d.files n)) [] (up (fm d.files) n (some (v.1,(v.1.length:Nat)))) none:=by
 have hf:bS d.files n=true:=by rw[mj hs,h];rfl
 have e:ch d.files n=(ou d.files (au d.files n) (fun f=>{ f with sure:=f.data.length }),0):=by unfold ch;rw[if_pos hf]
 have hu:=DO hs h (fun f=>{ f with sure:=(f.data.length:Nat) }) (fun _=>rfl)
 rw[e];exact n9 hs rfl hu.1 hu.2
theorem yQ {d:Dsk} (hs:srt d.files) {n:Txt} {v:Txt × Int} (h:fm d.files n=some v):Out d (ai d (bN d.files n)) [] (up (fm d.files) n none) none:=by
 have hf:bS d.files n=true:=by rw[mj hs,h];rfl
 have e:bN d.files n=(fI d.files (au d.files n),0):=by unfold bN;rw[if_pos hf]
 obtain⟨hp,he⟩:=cq hf;rw[e];exact n9 hs rfl (mG hs _) (by rw[KY hs hp,he])
theorem NK {d:Dsk} (hs:srt d.files) {a b:Txt} (hb:dU b=true) {v:Txt × Int} (h:fm d.files a=some v):Out d (ai d (i8 d.files a b)) [] (up (up (fm d.files) a none) b (some v)) none:=by
 have hf:bS d.files a=true:=by rw[mj hs,h];rfl
 obtain⟨hp,he,hv⟩:=xU hs h;have e:i8 d.files a b=(jm (fI d.files (au d.files a)) (eb d.files (au d.files a) b),0):=by unfold i8;rw[if_pos hf,if_pos hb]
 rw[e];refine n9 hs rfl (Ev (mG hs _) _) ?_;have e2:eb d.files (au d.files a) b={ d.files[au d.files a] with name:=b }:=by unfold eb;rw[zE hp]
 rw[PU (mG hs _),KY hs hp,he,e2,<- hv]
theorem Out.seq {d:Dsk} {r1 r2:Dsk × Int} {X X1 X2:List Txt} {G1 G2:FM} {g g1 g2:Option FM} (h1:Out d r1 X1 G1 g1) (h2:r1.2=0->r1.1.down=false->fm r1.1.files=G1->srt r1.1.files->Out r1.1 r2 X2 G2 g2)
  (hG:∀ n,n ∉ X->G1 n=fm d.files n) (hx1:∀ n∈X1,n∈X) (hx2:∀ n∈X2,n∈X) (hg1:∀ q,g1=some q->g=some q) (hg2:∀ q,g2=some q->g=some q):Out d (if r1.2=0 then r2 else r1) X G2 g:=by
 obtain⟨k1,s1,o1⟩:=h1;rcases o1 with⟨e,hd,hf⟩|⟨q,hq,e,hd,hf⟩|⟨e,hd,hf⟩
 ·rw[if_pos e];obtain⟨k2,s2,o2⟩:=h2 e hd hf s1;refine⟨k1.trans k2,s2,?_⟩;rcases o2 with o2|⟨q,hq,o2⟩|⟨e2,hd2,hf2⟩
  ·exact .inl o2
  ·exact .inr (.inl ⟨q,hg2 q hq,o2⟩)
  ·refine .inr (.inr ⟨e2,hd2,fun n hn=>?_⟩)
   rw[hf2 n (fun hm=>hn (hx2 n hm)),hf]
   exact hG n hn
 ·rw[if_neg (by rw[e];decide)]
  exact⟨k1,s1,.inr (.inl ⟨q,hg1 q hq,e,hd,hf⟩)⟩
 ·rw[if_neg (by rw[e];decide)]
  exact⟨k1,s1,.inr (.inr ⟨e,hd,fun n hn=>hf n (fun hm=>hn (hx1 n hm))⟩)⟩
theorem Out.unl {d:Dsk} {r:Dsk × Int} {X:List Txt} {G g:FM} {n:Txt} {v:Txt × Int} (h:Out d r X G (some g)) (hn:g n=some v) (hg:∀ k,k ∉ X->g k=fm d.files k):Out d (cV n r) X G (some (up g n none)):=by
 obtain⟨k1,s1,o1⟩:=h;obtain⟨r1,e⟩:=r;simp only at k1 s1 o1;rcases o1 with⟨rfl,hd,hf⟩|⟨q,hq,rfl,hd,hf⟩|⟨rfl,hd,hf⟩
 ·have:cV n (r1,0)=(r1,0):=by unfold cV;rw[if_pos (by simp)]
  rw[this];exact⟨k1,s1,.inl ⟨rfl,hd,hf⟩⟩
 ·cases hq;have e1:dH n (r1,0)=ai r1 (bN r1.files n):=bD _ _;have hdl:=yQ s1 (n:=n) (v:=v) (by rw[hf];exact hn)
  unfold cV;rw[if_neg (by simp)]
  simp only[e1];generalize ai r1 (bN r1.files n)=w at *;obtain⟨k2,s2,o2⟩:=hdl;rcases o2 with⟨e2,hd2,hf2⟩|⟨q,hq,_⟩|⟨e2,hd2,hf2⟩
  ·rw[if_pos e2];exact⟨k1.trans k2,s2,.inr (.inl ⟨_,rfl,rfl,hd2,by rw[hf2,hf]⟩)⟩
  ·cases hq
  ·rw[if_neg (by rw[e2];decide)]
   refine⟨k1.trans k2,s2,.inr (.inr ⟨e2,hd2,fun k hk=>?_⟩)⟩
   rw[hf2 k (by simp),hf]
   exact hg k hk
 ·have:cV n (r1,10)=(r1,10):=by unfold cV;rw[if_pos (by simp)]
  rw[this];exact⟨k1,s1,.inr (.inr ⟨rfl,hd,hf⟩)⟩
def tZ (l:List Txt) (s:Dsk × Int):Dsk × Int:=l.foldl (fun s n=>dH n s) s
theorem nq (n:Txt) (l:List Txt) (s:Dsk × Int):tZ (n::l) s=tZ l (dH n s):=rfl
theorem tF (l:List Txt) (s:Dsk × Int) (h:s.2≠0):tZ l s=s:=by
 induction l with
 | nil=>rfl
 | cons n l ih=>rw[nq,show dH n s=s from iI h _];exact ih
def ls (s:Sto) (k:Nat):List Txt:=(s.segs.take k).map (fun g=>fileN g.base)++(if 0<s.floor then[aC s.floor] else[])
theorem Nb (l:List Seg) (q:Dsk × Int):AY l q=tZ (l.map fun g=>fileN g.base) q:=by
 unfold AY tZ;rw[List.foldl_map]
theorem CN (s:Sto) (k:Nat) (q:Dsk × Int):xY s k q=tZ (ls s k) q:=by
 unfold xY ls;simp only[];rw[Nb];unfold tZ;rw[List.foldl_append];generalize List.foldl (fun s n=>dH n s) q ((s.segs.take k).map fun g=>fileN g.base)=r
 by_cases c:0<s.floor
 ·rw[if_pos c];by_cases c2:r.2=0
  ·rw[if_pos ⟨c2,c⟩];rfl
  ·rw[if_neg (fun h=>c2 h.1)]
   show r=dH (aC s.floor) r;exact(iI c2 _).symm
 ·rw[if_neg (fun h=>c h.2),if_neg c];rfl
theorem lX {d:Dsk} (h:d.down=true) (r:List Fil × Int):ai d r=(d,10):=by unfold ai;rw[if_pos h]
theorem Out.dn {d:Dsk} (hs:srt d.files) (h:d.down=true) (X:List Txt) (G:FM) (g:Option FM):Out d (d,10) X G g:=⟨Dk.refl d,hs,.inr (.inr ⟨rfl,h,fun _ _=>rfl⟩)⟩
theorem Out.eq {d:Dsk} {r:Dsk × Int} {X:List Txt} {G G':FM} {g g':Option FM} (h:Out d r X G g) (h1:G=G') (h2:g=g'):Out d r X G' g':=h1 ▸ h2 ▸ h
theorem Dy (n:Txt) (h:2<=n.length):n≠[110]:=fun e=>by rw[e] at h;simp at h
theorem gO {r:Dsk × Int} (h:r.2=0):r=(r.1,0):=by rw[<- h]
def manV (m:Man):Option (Txt × Int):=some (aT m,((aT m).length:Nat))
theorem qp {d:Dsk} (hs:srt d.files) {m:Man} (hm:manB m=true) (hn:d.down=false->fm d.files [110]=none):Out d (bT m (d,0)) [[110]] (up (fm d.files) [109] (manV m)) (some (fm d.files)):=by
 have hp:bc m=(aT m,0):=by unfold bc;rw[if_pos hm]
 by_cases hd:d.down=true
 ·have e:bT m (d,0)=(d,10):=by
   have e1:∀ s:Dsk × Int,s=(d,0)∨s=(d,10)->bR [110] s=(d,10):=by
    rintro s (rfl|rfl)
    ·show ai d _=_;exact lX hd _
    ·rfl
   have e2:(if(az d.files [110]).2=0 then dH [110] (d,0) else(d,0))=(d,0)∨(if(az d.files [110]).2=0 then dH [110] (d,0) else(d,0))=(d,10):=by
    split
    ·exact .inr (lX hd _)
    ·exact .inl rfl
   unfold bT;simp only[hp,if_true];rw[e1 _ e2];try rfl
  rw[e];exact .dn hs hd _ _ _
 ·have hn:=hn (by simpa using hd)
  have hr:(az d.files [110]).2≠0:=by rw[kG hs,hn];decide
  have e:bT m (d,0)=if(ai d (bB d.files [110])).2=0 then wb [110] [109] (fi [110] (cV [110] (fL [110] (aT m) (ai d (bB d.files [110]))))) else ai d (bB d.files [110]):=by
   have e1:bR [110] (d,0)=ai d (bB d.files [110]):=bD _ _;unfold bT;simp only[hp,if_true,if_neg hr,e1];by_cases h:(ai d (bB d.files [110])).2=0
   ·rw[if_neg (by simp[h]),if_pos h]
   ·rw[if_pos h,if_neg h]
  rw[e];refine Out.seq (nQ hs (by decide) hn) (g1:=none) (g2:=some (fm d.files)) ?_ ?_ (by simp) (X2:=[[110]]) (by simp) (by simp) (by simp)
  ·intro h0 hd1 hf1 hs1;rw[gO h0];generalize (ai d (bB d.files [110])).1=d1 at *;have ea:fL [110] (aT m) (d1,0)=ai d1 (bM d1.files d1.cap [110] (aT m)):=bD _ _;rw[ea];have h1:=t7 hs1 (aT m) (n:=[110]) (v:=([],0)) (by rw[hf1,db])
   have h2:=h1.unl (n:=[110]) (v:=([],0)) (by rw[hf1,db]) (fun _ _=>rfl)
   have h3:=Out.seq (X:=[[110]]) (g:=some (fm d.files)) h2 (r2:=fi [110] ((cV [110] (ai d1 (bM d1.files d1.cap [110] (aT m)))).1,0)) (X2:=[]) (G2:=up (up (fm d1.files) [110] (some ([]++aT m,0))) [110] (manV m)) (g2:=none)
    (fun h0 hd2 hf2 hs2=>(by
     have:=my hs2 (n:=[110]) (v:=([]++aT m,0)) (by rw[hf2,db])
     rw[hf2] at this;exact this)) (fun n hn=>bv _ _ (by simpa using hn)) (by simp) (by simp)
    (fun q hq=>by cases hq;rw[hf1,jk,mK hn]) (by simp)
   have e3:fi [110] (cV [110] (ai d1 (bM d1.files d1.cap [110] (aT m))))=if(cV [110] (ai d1 (bM d1.files d1.cap [110] (aT m)))).2=0 then fi [110] ((cV [110] (ai d1 (bM d1.files d1.cap [110] (aT m)))).1,0) else cV [110] (ai d1 (bM d1.files d1.cap [110] (aT m))):=by
    split
    ·rename_i h;rw[<- gO h]
    ·rename_i h;exact iI h _
   rw[<- e3] at h3;generalize fi [110] (cV [110] (ai d1 (bM d1.files d1.cap [110] (aT m))))=w at *;have h4:=Out.seq (X:=[[110]]) (g:=some (fm d.files)) h3 (r2:=ai w.1 (i8 w.1.files [110] [109])) (X2:=[]) (G2:=up (fm d.files) [109] (manV m)) (g2:=none)
    (fun h0 hd2 hf2 hs2=>(by
     have:=NK hs2 (a:=[110]) (b:=[109]) (by decide) (v:=(aT m,((aT m).length:Nat))) (by rw[hf2,db];rfl)
     refine this.eq ?_ rfl;rw[hf2,hf1,jk,jk,jk,mK hn];rfl)) (fun n hn=>by rw[jk];exact bv _ _ (by simpa using hn)) (by simp) (by simp) (by simp) (by simp)
   exact h4
  ·intro n hn;exact bv _ _ (by simpa using hn)
theorem y9 {d:Dsk} (hs:srt d.files) {n:Txt} {m:Man} (hm:manB m=true) (hnm:dU n=true) (hn2:n≠[110]) (h1:d.down=false->fm d.files [110]=none) (h2:d.down=false->fm d.files n=none) :
  Out d (if(bR n (d,0)).2=0 then cV n (bT m (bR n (d,0))) else bR n (d,0)) [n,[110]] (up (up (fm d.files) n (some ([],0))) [109] (manV m)) (some (fm d.files)):=by
 have e1:bR n (d,0)=ai d (bB d.files n):=bD _ _;rw[e1];by_cases hd:d.down=true
 ·rw[lX hd,if_neg (by simp)]
  exact .dn hs hd _ _ _
 ·have hd:d.down=false:=by simpa using hd
  refine Out.seq (nQ hs hnm (h2 hd)) (g1:=none) (g2:=some (fm d.files)) ?_ ?_ (by simp) (X2:=[[110]]) (by simp) (by simp) (by simp)
  ·intro h0 hd1 hf1 hs1;rw[gO h0];generalize (ai d (bB d.files n)).1=d1 at *;have h3:=qp hs1 hm (fun _=>by rw[hf1,bv _ _ (fun e=>hn2 e.symm)];exact h1 hd)
   have h4:=h3.unl (n:=n) (v:=([],0)) (by rw[hf1,db]) (fun _ _=>rfl)
   rw[hf1,jk,mK (h2 hd)] at h4;exact h4
  ·intro k hk;exact bv _ _ (fun e=>hk (by simp[e]))
theorem NN {d:Dsk} (hs:srt d.files) {n x:Txt} {m:Man} (hm:manB m=true) (hnm:dU n=true) (hn2:n≠[110]) (h1:d.down=false->fm d.files [110]=none) (h2:d.down=false->fm d.files n=none) :
  Out d (mU d n x m) [n,[110]] (up (up (fm d.files) n (some (x,(x.length:Nat)))) [109] (manV m)) (some (fm d.files)):=by
 have e1:bR n (d,0)=ai d (bB d.files n):=bD _ _;unfold mU;simp only[e1];by_cases hd:d.down=true
 ·rw[lX hd];have e2:fi n (d,10)=(d,10):=rfl;simp only[e2];exact .dn hs hd _ _ _
 ·have hd:d.down=false:=by simpa using hd
  have k1:=Out.seq (X:=[n]) (g:=some (fm d.files)) (nQ hs hnm (h2 hd)) (r2:=cV n (fL n x (ai d (bB d.files n)))) (G2:=up (fm d.files) n (some (x,0))) (g2:=some (fm d.files)) (X2:=[]) (by
   intro h0 hd1 hf1 hs1;rw[gO h0];generalize (ai d (bB d.files n)).1=d1 at *;have ea:fL n x (d1,0)=ai d1 (bM d1.files d1.cap n x):=bD _ _;rw[ea];have h3:=(t7 hs1 x (n:=n) (v:=([],0)) (by rw[hf1,db])).unl (n:=n) (v:=([],0)) (by rw[hf1,db]) (fun _ _=>rfl)
   rw[hf1,jk,jk,mK (h2 hd)] at h3;exact h3) (fun k hk=>bv _ _ (by simpa using hk)) (by simp) (by simp) (by simp) (by simp)
  generalize (if(ai d (bB d.files n)).2=0 then cV n (fL n x (ai d (bB d.files n))) else ai d (bB d.files n))=b at *
  have k2:=Out.seq (X:=[n]) (g:=some (fm d.files)) k1 (r2:=ai b.1 (ch b.1.files n)) (G2:=up (fm d.files) n (some (x,(x.length:Nat)))) (g2:=none) (X2:=[]) (by
   intro h0 hd1 hf1 hs1;have:=my hs1 (n:=n) (v:=(x,0)) (by rw[hf1,db])
   rw[hf1,jk] at this;exact this) (fun k hk=>bv _ _ (by simpa using hk)) (by simp) (by simp) (by simp) (by simp)
  have e3:(if b.2=0 then ai b.1 (ch b.1.files n) else b)=fi n b:=rfl
  rw[e3] at k2;generalize fi n b=c at *;refine Out.seq (X:=[n,[110]]) k2 (g:=some (fm d.files)) (g2:=some (fm d.files)) (X2:=[[110]]) ?_ ?_ (by simp) (by simp) (by simp) (by simp)
  ·intro h0 hd1 hf1 hs1;rw[gO h0];have h3:=qp hs1 hm (fun _=>by rw[hf1,bv _ _ (fun e=>hn2 e.symm)];exact h1 hd)
   have h4:=h3.unl (n:=n) (v:=(x,((x.length:Nat):Int))) (by rw[hf1,db]) (fun _ _=>rfl)
   rw[hf1,jk,mK (h2 hd)] at h4;exact h4
  ·intro k hk;exact bv _ _ (fun e=>hk (by simp[e]))
def B9 (l:List Txt) (F:FM):FM:=fun k=>if k∈l then none else F k
theorem tQ:∀ (l:List Txt) (d:Dsk),srt d.files->l.Nodup->d.down=false->(∀ n∈l,fm d.files n≠none)->Out d (tZ l (d,0)) l (B9 l (fm d.files)) none
 | [],d,hs,_,hd,_=>⟨Dk.refl d,hs,.inl ⟨rfl,hd,by funext k;simp[B9,tZ]⟩⟩
 | n::l,d,hs,hn,hd,h=>by
  have hn:=List.nodup_cons.1 hn;obtain⟨v,hv⟩:=Option.ne_none_iff_exists'.1 (h n (by simp))
  have e1:dH n (d,0)=ai d (bN d.files n):=bD _ _;rw[nq,e1];have h1:=yQ hs hv;have e2:tZ l (ai d (bN d.files n))=if(ai d (bN d.files n)).2=0 then tZ l ((ai d (bN d.files n)).1,0) else ai d (bN d.files n):=by
   split
   ·rename_i h0;rw[<- gO h0]
   ·rename_i h0;exact tF l _ h0
  rw[e2];refine Out.seq h1 (X2:=l) (g2:=none) ?_ ?_ (by simp) (fun k hk=>by simp[hk]) (by simp) (by simp)
  ·intro h0 hd1 hf1 hs1;have h2:=tQ l (ai d (bN d.files n)).1 hs1 hn.2 hd1 (fun k hk=>by
    rw[hf1,bv _ _ (fun e=>hn.1 (by rw[<- e];exact hk))];exact h k (by simp[hk]))
   rw[hf1] at h2;refine h2.eq ?_ rfl;funext k
   unfold B9;by_cases c:k=n
   ·simp[c,hn.1,db]
   ·by_cases c2:k∈l
    ·rw[if_pos c2,if_pos (List.mem_cons_of_mem _ c2)]
    ·rw[if_neg c2,if_neg (by simp[c,c2]),bv _ _ c]
  ·intro k hk;exact bv _ _ (fun e=>hk (by simp[e]))
structure Act where
 kind:Int
 n:Int
 data:List UInt8
 deriving DecidableEq
def Act.enc (e:Act):List D:=[.i .i64 e.kind,.i .i64 e.n,.s e.data]
def Act.ok (e:Act):Prop:=(-9223372036854775808<=e.kind∧e.kind<9223372036854775808)∧(-9223372036854775808<=e.n∧e.n<9223372036854775808)∧e.data.length<=9223372036854775807
def Act.ty:List Ty:=[.i .i64,.i .i64,.s]
def sd (d:Dsk) (n:Int):Dsk:={ d with armed:=decide (0<=n),left:=if 0<n then n else 0 }
def TS (d:Dsk) (n:Int):Dsk:={ d with cap:=if 0<n then n else 0 }
theorem HT (d:Dsk) (n:Int) (hn : -9223372036854775808<=n∧n<9223372036854775808):call 15 [.agg d.l,vi n] []=some (.agg (sd d n).l,[]):=by
 apply ae Wc rfl;obtain⟨fl,cp,ar,lf,dn⟩:=d;unfold sd;by_cases c:0<n
 ·have c2:0<=n:=by omega
  refine bh ?_ TJ.eq_1 @Dsk.l.eq_1 c c2;try simp[trim]
  try omega
 ·have c3:¬ n > 0:=c;refine bh ?_ TJ.eq_1 @Dsk.l.eq_1 c;try simp[trim]
  try omega
variable {f:Int} {S:Txt} {l0:List Pr} {s:Sto} {M:List SR} {g:Seg} {l:List Rec}
theorem d8 (n:Int):(aC n).length=14:=by simp[aC,fT]
theorem bV (n:Int):(fileN n).length=14:=by simp[fileN,fT]
theorem cZ (a b:Int):aC a≠fileN b:=fun h=>by
 have:(aC a)[0]?=(fileN b)[0]?:=by rw[h]
 simp[aC,fileN,fT] at this
theorem kz (n:Txt) (h:2<=n.length):n≠[109]:=fun e=>by rw[e] at h;simp at h
theorem CO {c:UInt8} {a b:Nat} (h:fT c a=fT c b):fT 115 a=fT 115 b:=by
 unfold fT at h ⊢;rw[(List.cons.inj h).2]
theorem sh {a b:Int} (ha:0<=a∧a<=1099511627776) (hb:0<=b∧b<=1099511627776) (h:aC a=aC b):a=b:=dZ ha hb (CO h)
theorem CG (n:Int):dU (fileN n)=true:=by
 have:=bV n;have h2:fileN n≠[]:=fun e=>by rw[e] at this;simp at this
 simp[dU,h2,this]
theorem Jk (n:Int):dU (aC n)=true:=by
 have:=d8 n;have h2:aC n≠[]:=fun e=>by rw[e] at this;simp at this
 simp[dU,h2,this]
def rel (f:Int) (s:Sto) (n:Txt):Prop:=n=[109]∨(∃ g∈s.segs,n=fileN g.base)∨(0<f∧n=aC f)
theorem n4 (f:Int) (s:Sto):¬ rel f s [110]:=by
 rintro(h|⟨g,_,h⟩|⟨_,h⟩)
 ·simp at h
 ·exact Dy _ (by rw[bV];decide) h.symm
 ·exact Dy _ (by rw[d8];decide) h.symm
def Snp (f:Int) (S:Txt) (l0:List Pr) (s:Sto):Prop :=
 (f=0∧S=[]∧l0=[]∧s.size=0∧s.sum=0)∨(0<f∧fm s.disk.files (aC f)=some (S,((S.length:Nat):Int))∧aU S=some l0∧s.size=((S.length:Nat):Int)∧s.sum=cE S)
structure W (f:Int) (S:Txt) (l0:List Pr) (s:Sto) (M:List SR) (g:Seg) (l:List Rec):Prop where
 inv:Inv f s M g l
 snp:Snp f S l0 s
 man:fm s.disk.files [109]=manV s.man
 right:manB s.man=true
 full:∀ p∈M,fm s.disk.files (fileN p.1.base)=some (rowS p.2,(((rowS p.2).length:Nat):Int))
 last:∃ q:Nat,fm s.disk.files (fileN g.base)=some (rowS l,((q:Nat):Int))∧(rowS (l.take (s.sure-g.base).toNat)).length<=q∧q<=(rowS l).length
 lo:g.base<=s.sure
 only:s.disk.down=false->∀ n,fm s.disk.files n≠none->rel f s n
theorem W.mem (h:W f S l0 s M g l):∀ p∈M++[(g,l)],p.1∈s.segs:=by
 intro p hp;rw[h.inv.segs];rcases zX.1 hp with hp|hp
 ·exact List.mem_append_left _ (List.mem_map_of_mem hp)
 ·rw[zV.1 hp];simp
theorem W.keep (h:W f S l0 s M g l) (hs:srt s.disk.files) {d:Dsk} (hs':srt d.files) (hk:∀ n,rel f s n->fm d.files n=fm s.disk.files n)
  (hd:d.down=true∨(fm d.files=fm s.disk.files∧s.disk.down=false)):W f S l0 { s with disk:=d } M g l:=by
 have hm:=h.mem;refine⟨h.inv.disk d fun p hp hh=>?_,?_,?_,h.right,fun p hp=>?_,?_,h.lo,fun hdn n hn=>?_⟩
 ·rw[jx hs] at hh;rw[jx hs',hk _ (.inr (.inl ⟨_,hm p hp,rfl⟩))];exact hh
 ·rcases h.snp with h1|⟨h1,h2,h3⟩
  ·exact .inl h1
  ·exact .inr ⟨h1,by show fm d.files _=_;rw[hk _ (.inr (.inr ⟨h1,rfl⟩))];exact h2,h3⟩
 ·show fm d.files _=_;rw[hk _ (.inl rfl)];exact h.man
 ·show fm d.files _=_;rw[hk _ (.inr (.inl ⟨_,hm p (List.mem_append_left _ hp),rfl⟩))];exact h.full p hp
 ·obtain⟨q,h1,h2⟩:=h.last;exact⟨q,by show fm d.files _=_;rw[hk _ (.inr (.inl ⟨_,hm (g,l) (by simp),rfl⟩))];exact h1,h2⟩
 ·rcases hd with hd|⟨h1,h2⟩
  ·rw[show d.down=false from hdn] at hd;cases hd
  ·exact h.only h2 n (by rw[<- h1];exact hn)
theorem W.fail (h:W f S l0 s M g l) (hs:srt s.disk.files) {r:Dsk × Int} {X:List Txt} {G:FM} (hO:Out s.disk r X G (some (fm s.disk.files))) (he:r.2≠0) (hX:∀ n∈X,¬ rel f s n) :
  W f S l0 { s with disk:=r.1 } M g l∧((r.2=9∧fm r.1.files=fm s.disk.files∧r.1.down=false)∨(r.2=10∧r.1.down=true)):=by
 obtain⟨k,s1,o⟩:=hO;rcases o with⟨e,_⟩|⟨q,hq,e,hd,hf⟩|⟨e,hd,hf⟩
 ·exact absurd e he
 ·cases hq;have h0:s.disk.down=false:=by
   cases hx:s.disk.down with
   | false=>rfl
   | true=>rw[k.down hx,hx] at hd;cases hd
  exact⟨h.keep hs s1 (fun n _=>by rw[hf]) (.inr ⟨hf,h0⟩),.inl ⟨e,hf,hd⟩⟩
 ·exact⟨h.keep hs s1 (fun n hn=>hf n (fun hx=>hX n hx hn)) (.inl hd),.inr ⟨e,hd⟩⟩
theorem W.same (h:W f S l0 s M g l) (hs:srt s.disk.files) {d:Dsk} (hf:d.files=s.disk.files) (hd:d.down=s.disk.down):W f S l0 { s with disk:=d } M g l:=by
 refine h.keep hs (by rw[hf];exact hs) (fun n _=>by rw[hf]) ?_
 cases hx:s.disk.down with
 | true=>exact .inl (hd.trans hx)
 | false=>exact .inr ⟨by rw[hf],rfl⟩
theorem W.arm (h:W f S l0 s M g l) (hs:srt s.disk.files) (n:Int):W f S l0 { s with disk:=sd s.disk n } M g l:=h.same hs rfl rfl
theorem pL {f:Int} {M:List SR} {g:Seg} (h:chainM f M g.base):∀ p∈M,p.1.base<g.base:=fun p hp=>by
 have:=(dY _ _ _ h).2 p hp;omega
theorem qH:∀ (l:List Int) (a:Int),lx a l=true↔(l.Pairwise (· < ·)∧∀ n∈l,a<n∧n<=1099511627776)
 | [],a=>by simp[lx]
 | x::r,a=>by
  have ih:=qH r x;simp only[lx,Bool.and_eq_true,decide_eq_true_eq,ih,List.pairwise_cons,List.mem_cons];constructor
  ·rintro⟨h1,h2,h3⟩;exact⟨⟨fun b hb=>(h3 b hb).1,h2⟩,fun n hn=>by
    rcases hn with rfl|hn
    ·exact h1
    ·have:=h3 n hn;exact⟨by omega,this.2⟩⟩
  ·rintro⟨⟨h1,h2⟩,h3⟩;exact⟨h3 x (.inl rfl),h2,fun n hn=>⟨h1 n hn,(h3 n (.inr hn)).2⟩⟩
theorem xZ {m:Man} (hv:1<=m.ver∧m.ver<=1099511627776) (hl:1<=m.segs.length∧m.segs.length<=64) (hi:lx (-1) m.segs=true) (hz:(m.segs.head?=some 0∧m.size=0∧m.sum=0)∨(m.segs.head?≠some 0∧0<m.size∧m.size<=65536)):manB m=true:=by
 unfold manB;rw[hi,Bool.true_and,Bool.and_eq_true];refine⟨by simpa using⟨hv.1,hv.2,hl.1,hl.2⟩,?_⟩
 rcases hz with⟨h1,h2,h3⟩|⟨h1,h2,h3⟩
 ·rw[if_pos h1];simp[h2,h3]
 ·rw[if_neg h1];simp[h2,h3]
theorem KE {m:Man} (h:manB m=true):(m.segs.head?=some 0∧m.size=0∧m.sum=0)∨(m.segs.head?≠some 0∧0<m.size∧m.size<=65536):=by
 unfold manB at h;rw[Bool.and_eq_true,Bool.and_eq_true] at h;have h2:=h.2.2;by_cases c:m.segs.head?=some 0
 ·rw[if_pos c] at h2;exact .inl ⟨c,by simpa using h2⟩
 ·rw[if_neg c] at h2;exact .inr ⟨c,by simpa using h2⟩
end Go.Proofs.YtgoifbjgmgbihaaGreat
