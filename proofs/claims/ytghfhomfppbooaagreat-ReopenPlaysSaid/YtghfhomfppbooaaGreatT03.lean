import Derived.Test.YtghfhomfppbooaaGreatT02
set_option linter.unusedSimpArgs false
set_option linter.unusedVariables false
set_option maxRecDepth 20000
set_option maxHeartbeats 16000000
namespace Go.Proofs.YtghfhomfppbooaaGreat
open Go.Vi
def ce (l:List Fil) (n:Txt):V:=.tup [(false,[zI (aw l n:Nat)]),(false,[zB (bA l n)])]
theorem Kh (lo hi:Nat):Int.fdiv ((lo:Int)+(hi:Int)) 2=(((lo+hi) / 2:Nat):Int):=by
 rw[Int.fdiv_eq_ediv_of_nonneg _ (by decide)];omega
theorem Ha (n:Int):b6 .shr (.i .u64 n) (.i .u64 1)=some (.i .u64 (n.fdiv 2)):=rfl
theorem ui (l:List Fil) (hl:l.length<=1000000) (hs:srt l) (n:Txt):call 84 [vl (l.map Fil.enc),vs n,.one (.f 85 [])] []=some (ce l n,[]):=by
 apply ah Nw rfl;have hc:=fun(f:Fil)=>KK f n
 obtain⟨Z,hZ⟩:∃ Z:V × Hp,Z=(ce l n,[]):=⟨_,rfl⟩;rw[<- hZ];(simp(disch:=first|decide|omega|(intros;exact aj rfl rfl)|simp only[aa]) only[Nc,go_sem,seval,ai])
 refine aE (m:=0) (σ:=Nat × Nat) (fun t=>t.2-t.1) (fun t=>t.1<=aw l n∧aw l n<=t.2∧t.2<=l.length) (fun t=>[vl (l.map Fil.enc),vs n,.one (.f 85 []),vi l.length,vi t.1,vi t.2]) (fun t=>[])
  (fun t=>Z) ?_ (0,l.length) ⟨zP _,mq l n,Nat.le_refl _⟩ _ _ bv
 rintro⟨lo,hi⟩ ⟨h1,h2,h3⟩ R hR;simp only at h1 h2 h3 ⊢;by_cases c:lo<hi
 ·have hm:=Kh lo hi;have hmid:(lo+hi) / 2<l.length:=by omega
  have hp:=gC hs n _ hmid;obtain⟨mid,hmd⟩:∃ mid,mid=(lo+hi) / 2:=⟨_,rfl⟩;simp only[<- hmd] at hm hmid hp;have g1:(l.map Fil.enc)[mid]?=some l[mid].enc:=by simp[hmid]
  by_cases c2:bl l[mid].name n=true
  ·have:=hp.1 c2;have hcn:mA l[mid].name n<0:=(pZ _ _).2 c2;(simp(disch:=first|decide|omega|(intros;exact aj rfl rfl)|simp only[aa]) only[ls,↓Ha,hm,g1,Fil.len,Fil.tkL,Fil.tk,↓hc,hcn,go_sem,seval,ai])
   exact hR (mid+1,hi) (by simp only[];omega) ⟨by simp only[];omega,h2,h3⟩ _ _ bv
  ·have:¬ mid<aw l n:=fun h=>c2 (hp.2 h)
   have hcn:¬ mA l[mid].name n<0:=fun h=>c2 ((pZ _ _).1 h)
   (simp(disch:=first|decide|omega|(intros;exact aj rfl rfl)|simp only[aa]) only[ls,↓Ha,hm,g1,Fil.len,Fil.tkL,Fil.tk,↓hc,hcn,go_sem,seval,ai])
   exact hR (lo,mid) (by simp only[];omega) ⟨h1,by simp only[];omega,by simp only[];omega⟩ _ _ bv
 ·have hlo:lo=aw l n:=by omega
  subst hlo;by_cases c0:aw l n<l.length
  ·have g1:(l.map Fil.enc)[aw l n]?=some l[aw l n].enc:=by simp[c0]
   have hhas:bA l n=decide (l[aw l n].name=n):=by unfold bA;rw[zE c0]
   by_cases c3:l[aw l n].name=n
   ·have hcz:mA l[aw l n].name n=0:=nO.2 c3;(simp(disch:=first|decide|omega|(intros;exact aj rfl rfl)|simp only[aa]) only[ls,c,c0,g1,Fil.len,Fil.tkL,Fil.tk,↓hc,hcz,go_sem,seval,ai])
    rw[hZ];simp[ce,hhas,c3]
   ·have hcz:¬ mA l[aw l n].name n=0:=fun h=>c3 (nO.1 h)
    (simp(disch:=first|decide|omega|(intros;exact aj rfl rfl)|simp only[aa]) only[ls,c,c0,g1,Fil.len,Fil.tkL,Fil.tk,↓hc,hcz,go_sem,seval,ai])
    rw[hZ];simp[ce,hhas,c3]
  ·have hhas:bA l n=false:=by unfold bA;rw[List.getElem?_eq_none (by omega)]
   (simp(disch:=first|decide|omega|(intros;exact aj rfl rfl)|simp only[aa]) only[ls,c,c0,go_sem,seval,ai])
   rw[hZ];simp[ce,hhas]
theorem vp (l:List Fil) (hl:l.length<=1000000) (hs:srt l) (n:Txt):call 84 [.one (.sl 0 3 0 l.length),vs n,.one (.f 85 [])] [.arr 3 (l.map Fil.enc) 0]=some (ce l n,[.arr 3 (l.map Fil.enc) 0]):=by
 apply ah Nw rfl;have hc:=fun(f:Fil)=>KK f n
 obtain⟨Z,hZ⟩:∃ Z:V × Hp,Z=(ce l n,[.arr 3 (l.map Fil.enc) 0]):=⟨_,rfl⟩;rw[<- hZ];(simp(disch:=first|decide|omega|(intros;exact aj rfl rfl)|simp only[aa]) only[Nc,go_sem,seval,ai])
 refine aE (m:=1) (σ:=Nat × Nat) (fun t=>t.2-t.1) (fun t=>t.1<=aw l n∧aw l n<=t.2∧t.2<=l.length) (fun t=>[V.one (.sl 0 3 0 l.length),vs n,.one (.f 85 []),vi l.length,vi t.1,vi t.2]) (fun t=>[.arr 3 (l.map Fil.enc) 0])
  (fun t=>Z) ?_ (0,l.length) ⟨zP _,mq l n,Nat.le_refl _⟩ _ _ bv
 rintro⟨lo,hi⟩ ⟨h1,h2,h3⟩ R hR;simp only at h1 h2 h3 ⊢;by_cases c:lo<hi
 ·have hm:=Kh lo hi;have hmid:(lo+hi) / 2<l.length:=by omega
  have hp:=gC hs n _ hmid;obtain⟨mid,hmd⟩:∃ mid,mid=(lo+hi) / 2:=⟨_,rfl⟩;simp only[<- hmd] at hm hmid hp;have g1:(l.map Fil.enc)[mid]?=some l[mid].enc:=by simp[hmid]
  by_cases c2:bl l[mid].name n=true
  ·have:=hp.1 c2;have hcn:mA l[mid].name n<0:=(pZ _ _).2 c2;(simp(disch:=first|decide|omega|(intros;exact aj rfl rfl)|simp only[aa]) only[ls,↓Ha,hm,g1,Fil.len,Fil.tkL,Fil.tk,↓hc,hcn,go_sem,seval,ai])
   exact hR (mid+1,hi) (by simp only[];omega) ⟨by simp only[];omega,h2,h3⟩ _ _ bv
  ·have:¬ mid<aw l n:=fun h=>c2 (hp.2 h)
   have hcn:¬ mA l[mid].name n<0:=fun h=>c2 ((pZ _ _).1 h)
   (simp(disch:=first|decide|omega|(intros;exact aj rfl rfl)|simp only[aa]) only[ls,↓Ha,hm,g1,Fil.len,Fil.tkL,Fil.tk,↓hc,hcn,go_sem,seval,ai])
   exact hR (lo,mid) (by simp only[];omega) ⟨h1,by simp only[];omega,by simp only[];omega⟩ _ _ bv
 ·have hlo:lo=aw l n:=by omega
  subst hlo;by_cases c0:aw l n<l.length
  ·have g1:(l.map Fil.enc)[aw l n]?=some l[aw l n].enc:=by simp[c0]
   have hhas:bA l n=decide (l[aw l n].name=n):=by unfold bA;rw[zE c0]
   by_cases c3:l[aw l n].name=n
   ·have hcz:mA l[aw l n].name n=0:=nO.2 c3;(simp(disch:=first|decide|omega|(intros;exact aj rfl rfl)|simp only[aa]) only[ls,c,c0,g1,Fil.len,Fil.tkL,Fil.tk,↓hc,hcz,go_sem,seval,ai])
    rw[hZ];simp[ce,hhas,c3,trim,V.refs,L.refs,Box.refs]
   ·have hcz:¬ mA l[aw l n].name n=0:=fun h=>c3 (nO.1 h)
    (simp(disch:=first|decide|omega|(intros;exact aj rfl rfl)|simp only[aa]) only[ls,c,c0,g1,Fil.len,Fil.tkL,Fil.tk,↓hc,hcz,go_sem,seval,ai])
    rw[hZ];simp[ce,hhas,c3,trim,V.refs,L.refs,Box.refs]
  ·have hhas:bA l n=false:=by unfold bA;rw[List.getElem?_eq_none (by omega)]
   (simp(disch:=first|decide|omega|(intros;exact aj rfl rfl)|simp only[aa]) only[ls,c,c0,go_sem,seval,ai])
   rw[hZ];simp[ce,hhas,trim,V.refs,L.refs,Box.refs]
theorem BV (l:List Fil) (hl:l.length<=1000000) (hs:srt l) (n:Txt):call 48 [vl (l.map Fil.enc),vs n] []=some (ce l n,[]):=by
 apply ah Nz rfl;have h:∀ H,az call 84 [vl (l.map Fil.enc),vs n,.one (.f 85 [])] H=some (ce l n,H):=fun H=>callIso_pure rfl (ui l hl hs n) rfl
 unfold ce at h ⊢;(simp(disch:=first|decide|omega|(intros;exact aj rfl rfl)|simp only[aa]) only[LZ,↓h,go_sem,seval,ai])
 try simp[trim]
theorem nA (l:List Fil) (hl:l.length<=1000000) (hs:srt l) (n:Txt):call 48 [.one (.sl 0 3 0 l.length),vs n] [.arr 3 (l.map Fil.enc) 0]=some (ce l n,[.arr 3 (l.map Fil.enc) 0]):=by
 apply ah Nz rfl;have h:az call 84 [.one (.sl 0 3 0 l.length),vs n,.one (.f 85 [])] [.arr 3 (l.map Fil.enc) 0]=some (ce l n,[.arr 3 (l.map Fil.enc) 0]) :=
  aP (ids:=[0]) rfl rfl rfl (vp l hl hs n) rfl
 unfold ce at h ⊢;(simp(disch:=first|decide|omega|(intros;exact aj rfl rfl)|simp only[aa]) only[LZ,↓h,go_sem,seval,ai])
 simp[zR]
def aB (l:List Fil) (n:Txt):Txt × Int:=match l[aw l n]? with|some f=>if f.name=n then(f.data,0) else([],7)|none=>([],7)
theorem gS (d:Dsk) (hl:d.files.length<=1000000) (hs:srt d.files) (n:Txt):call 22 [.agg d.l,vs n] []=some (.tup [(false,[.d (.s (aB d.files n).1)]),(false,[.d (.i .i64 (aB d.files n).2)])],[]):=by
 apply ah Ot rfl;have h:=BV d.files hl hs n;unfold ce bA at h;unfold aB;by_cases c:aw d.files n<d.files.length
 ·rw[zE c] at h ⊢;have g1:(d.files.map Fil.enc)[aw d.files n]?=some d.files[aw d.files n].enc:=by simp[c]
  by_cases c2:d.files[aw d.files n].name=n
  ·simp only[c2,decide_true] at h;(simp(disch:=first|decide|omega|(intros;exact aj rfl rfl)|simp only[aa]) only[Lt,Dsk.l,h,g1,Fil.len,Fil.tkL,Fil.tk,Fil.at1,go_sem,seval,ai])
   simp[c2]
  ·simp only[c2,decide_false] at h;(simp(disch:=first|decide|omega|(intros;exact aj rfl rfl)|simp only[aa]) only[Lt,Dsk.l,h,go_sem,seval,ai])
   simp[c2]
 ·rw[List.getElem?_eq_none (by omega)] at h ⊢
  (simp(disch:=first|decide|omega|(intros;exact aj rfl rfl)|simp only[aa]) only[Lt,Dsk.l,h,go_sem,seval,ai])
  try simp
def usedF (l:List Fil):Nat:=(l.map fun f=>f.data.length).sum
theorem bV (a b:List Fil):usedF (a++b)=usedF a+usedF b:=by unfold usedF;rw[List.map_append,List.sum_append]
theorem fj (f:Fil):usedF [f]=f.data.length:=by simp[usedF]
theorem lC (l:List Fil) (i:Nat):usedF (l.take i)<=usedF l:=by
 have:=bV (l.take i) (l.drop i);rw[zY] at this;omega
theorem BU (d:Dsk) (hl:d.files.length<=1000000) (hu:usedF d.files<=1000000000000):call 129 [.agg d.l] []=some (vi (usedF d.files:Nat),[]):=by
 apply ah MO rfl;(simp(disch:=first|decide|omega|(intros;exact aj rfl rfl)|simp only[aa]) only[La,Dsk.l,go_sem,seval,ai])
 refine aE (m:=0) (σ:=Nat) (fun i=>d.files.length-i) (fun i=>i<=d.files.length) (fun i=>[vi (usedF (d.files.take i):Nat),vl (d.files.map Fil.enc),vi d.files.length,vi i]) (fun i=>[])
  (fun t=>(vi (usedF d.files:Nat),[])) ?_ 0 (zP _) _ _ ?_
 rotate_left
 ·exact bv
 intro i hi R hR;have hle:=lC d.files i;by_cases c:i<d.files.length
 ·have hR':=hR (i+1) (by omega) (by omega)
  have e1:usedF (d.files.take (i+1))=usedF (d.files.take i)+d.files[i].data.length:=by
   rw[zO c,bV,fj]
  have hle2:=lC d.files (i+1);have g1:(d.files.map Fil.enc)[i]?=some d.files[i].enc:=by simp[c]
  rw[e1] at hR' hle2;generalize usedF (d.files.take i)=u at *;(simp(disch:=first|decide|omega|(intros;exact aj rfl rfl)|simp only[aa]) only[xY,g1,Fil.len,Fil.tkL,Fil.tk,Fil.at1,Fil.fd1,Fil.lenL,zM,go_sem,seval,ai])
  exact hR' _ _ bv
 ·have hi2:i=d.files.length:=by omega
  subst hi2;rw[List.take_length];(simp(disch:=first|decide|omega|(intros;exact aj rfl rfl)|simp only[aa]) only[xY,go_sem,seval,ai])
  try simp[trim]
def aA (d:Dsk) (r:List Fil × Int):Dsk × Int :=
 if d.down=true then(d,10) else if r.2≠0 then(d,r.2) else if d.armed=true then(if d.left=0 then({ d with down:=true },10) else({ d with left:=d.left-1,files:=r.1 },0)) else({ d with files:=r.1 },0)
theorem zz (d:Dsk) (hl:d.files.length<=1000000) (hs:srt d.files) (hL:0<=d.left∧d.left<9223372036854775808) (n:Txt) (g:Nat)  (fs:List Fil) (e:Int)
  (hdo:∀ D R:Box,∃ B,D=.cells d.l->d.down=false->az call g [.one (.sl 3 3 0 d.files.length),vi (aw d.files n:Nat),vb (bA d.files n)] [D,R,.dead,.arr 3 (d.files.map Fil.enc) 0]=some (.tup [(false,[.d (.l (fs.map Fil.enc))]),(false,[zI e])],[D,R,.dead,B])) :
  call 86 [.agg d.l,vs n,.one (.f g [])] []=some (.tup [(true,(aA d (fs,e)).1.l),(false,[.d (.i .i64 (aA d (fs,e)).2)])],[]):=by
 apply ah LY rfl;have hcl:=Is (d.files.map Fil.enc) (a8 Fil.len _) (by simp;omega) (by simp;omega)
 have hf:∀ D R:Box,az call 48 [.one (.sl 3 3 0 d.files.length),vs n] [D,R,.dead,.arr 3 (d.files.map Fil.enc) 0]=some (ce d.files n,[D,R,.dead,.arr 3 (d.files.map Fil.enc) 0]):=fun D R =>
  aP (ids:=[3]) rfl rfl rfl (nA d.files hl hs n) rfl
 unfold ce at hf;obtain⟨fl,cp,ar,lf,dn⟩:=d;simp only at *;unfold aA;cases dn with
 | true =>
  (simp(disch:=first|decide|omega|(intros;exact aj rfl rfl)|simp only[aa]) only[xj,Dsk.l,go_sem,seval,ai])
  try simp[zR,Dsk.l]
 | false =>
  by_cases he:e=0
  ·subst he;cases ar with
   | false =>
    obtain⟨B,hB⟩:=hdo (.cells [.d (.l (fl.map Fil.enc)),zI cp,zB false,zI lf,zB false]) (.cells [.ns,zI 0,zB false,zI 0,zB false]);have hB:=hB rfl rfl;(simp(disch:=first|decide|omega|(intros;exact aj rfl rfl)|simp only[aa]) only[xj,Dsk.l,↓hcl,↓hf,↓hB,zM,go_sem,seval,ai])
    try simp[zR,Dsk.l]
   | true =>
    obtain⟨B,hB⟩:=hdo (.cells [.d (.l (fl.map Fil.enc)),zI cp,zB true,zI lf,zB false]) (.cells [.ns,zI 0,zB false,zI 0,zB false]);have hB:=hB rfl rfl;by_cases hz:lf=0
    ·subst hz;(simp(disch:=first|decide|omega|(intros;exact aj rfl rfl)|simp only[aa]) only[xj,Dsk.l,↓hcl,↓hf,↓hB,zM,go_sem,seval,ai])
     try simp[zR,Dsk.l]
    ·(simp(disch:=first|decide|omega|(intros;exact aj rfl rfl)|simp only[aa]) only[xj,Dsk.l,↓hcl,↓hf,↓hB,zM,hz,go_sem,seval,ai])
     try simp[zR,Dsk.l,hz]
  ·obtain⟨B,hB⟩:=hdo (.cells [.d (.l (fl.map Fil.enc)),zI cp,zB ar,zI lf,zB false]) (.cells [.ns,zI 0,zB false,zI 0,zB false]);have hB:=hB rfl rfl;(simp(disch:=first|decide|omega|(intros;exact aj rfl rfl)|simp only[aa]) only[xj,Dsk.l,↓hcl,↓hf,↓hB,zM,he,go_sem,seval,ai])
   try simp[zR,Dsk.l,he]
theorem uj (d:Dsk) (hl:d.files.length<=1000000) (hs:srt d.files) (hL:0<=d.left∧d.left<9223372036854775808) (n:Txt) (g:Nat) (x0:List L) (hx0:x0.flatMap L.refs=[]) (fs:List Fil) (e:Int)
  (hdo:∀ D R:Box,∃ B,D=.cells d.l->d.down=false->az call g [.one (.sl 4 3 0 d.files.length),vi (aw d.files n:Nat),vb (bA d.files n),.one (.p 0 0)] [(.cells x0),D,R,.dead,.arr 3 (d.files.map Fil.enc) 0]=some (.tup [(false,[.d (.l (fs.map Fil.enc))]),(false,[zI e])],[(.cells x0),D,R,.dead,B])) :
  call 86 [.agg d.l,vs n,.one (.f g [0])] [(.cells x0)]=some (.tup [(true,(aA d (fs,e)).1.l),(false,[.d (.i .i64 (aA d (fs,e)).2)])],[(.cells x0)]):=by
 apply ah LY rfl;have hcl:=Is (d.files.map Fil.enc) (a8 Fil.len _) (by simp;omega) (by simp;omega)
 have hf:∀ D R:Box,az call 48 [.one (.sl 4 3 0 d.files.length),vs n] [(.cells x0),D,R,.dead,.arr 3 (d.files.map Fil.enc) 0]=some (ce d.files n,[(.cells x0),D,R,.dead,.arr 3 (d.files.map Fil.enc) 0]):=fun D R =>
  aP (ids:=[4]) rfl rfl rfl (nA d.files hl hs n) rfl
 unfold ce at hf;obtain⟨fl,cp,ar,lf,dn⟩:=d;simp only at *;unfold aA;cases dn with
 | true =>
  (simp(disch:=first|decide|omega|(intros;exact aj rfl rfl)|simp only[aa]) only[xj,Dsk.l,go_sem,seval,ai])
  try simp[zR,Dsk.l,hx0]
 | false =>
  by_cases he:e=0
  ·subst he;cases ar with
   | false =>
    obtain⟨B,hB⟩:=hdo (.cells [.d (.l (fl.map Fil.enc)),zI cp,zB false,zI lf,zB false]) (.cells [.ns,zI 0,zB false,zI 0,zB false]);have hB:=hB rfl rfl;(simp(disch:=first|decide|omega|(intros;exact aj rfl rfl)|simp only[aa]) only[xj,Dsk.l,↓hcl,↓hf,↓hB,zM,go_sem,seval,ai])
    try simp[zR,Dsk.l,hx0]
   | true =>
    obtain⟨B,hB⟩:=hdo (.cells [.d (.l (fl.map Fil.enc)),zI cp,zB true,zI lf,zB false]) (.cells [.ns,zI 0,zB false,zI 0,zB false]);have hB:=hB rfl rfl;by_cases hz:lf=0
    ·subst hz;(simp(disch:=first|decide|omega|(intros;exact aj rfl rfl)|simp only[aa]) only[xj,Dsk.l,↓hcl,↓hf,↓hB,zM,go_sem,seval,ai])
     try simp[zR,Dsk.l,hx0]
    ·(simp(disch:=first|decide|omega|(intros;exact aj rfl rfl)|simp only[aa]) only[xj,Dsk.l,↓hcl,↓hf,↓hB,zM,hz,go_sem,seval,ai])
     try simp[zR,Dsk.l,hx0,hz]
  ·obtain⟨B,hB⟩:=hdo (.cells [.d (.l (fl.map Fil.enc)),zI cp,zB ar,zI lf,zB false]) (.cells [.ns,zI 0,zB false,zI 0,zB false]);have hB:=hB rfl rfl;(simp(disch:=first|decide|omega|(intros;exact aj rfl rfl)|simp only[aa]) only[xj,Dsk.l,↓hcl,↓hf,↓hB,zM,he,go_sem,seval,ai])
   try simp[zR,Dsk.l,hx0,he]
theorem Gb (d:Dsk) (hl:d.files.length<=1000000) (hs:srt d.files) (hL:0<=d.left∧d.left<9223372036854775808) (n:Txt) (g:Nat) (x0:List L) (hx0:x0.flatMap L.refs=[]) (x1:List L) (hx1:x1.flatMap L.refs=[]) (fs:List Fil) (e:Int)
  (hdo:∀ D R:Box,∃ B,D=.cells d.l->d.down=false->az call g [.one (.sl 5 3 0 d.files.length),vi (aw d.files n:Nat),vb (bA d.files n),.one (.p 0 0),.one (.p 1 0)] [(.cells x0),(.cells x1),D,R,.dead,.arr 3 (d.files.map Fil.enc) 0]=some (.tup [(false,[.d (.l (fs.map Fil.enc))]),(false,[zI e])],[(.cells x0),(.cells x1),D,R,.dead,B])) :
  call 86 [.agg d.l,vs n,.one (.f g [0,1])] [(.cells x0),(.cells x1)]=some (.tup [(true,(aA d (fs,e)).1.l),(false,[.d (.i .i64 (aA d (fs,e)).2)])],[(.cells x0),(.cells x1)]):=by
 apply ah LY rfl;have hcl:=Is (d.files.map Fil.enc) (a8 Fil.len _) (by simp;omega) (by simp;omega)
 have hf:∀ D R:Box,az call 48 [.one (.sl 5 3 0 d.files.length),vs n] [(.cells x0),(.cells x1),D,R,.dead,.arr 3 (d.files.map Fil.enc) 0]=some (ce d.files n,[(.cells x0),(.cells x1),D,R,.dead,.arr 3 (d.files.map Fil.enc) 0]):=fun D R =>
  aP (ids:=[5]) rfl rfl rfl (nA d.files hl hs n) rfl
 unfold ce at hf;obtain⟨fl,cp,ar,lf,dn⟩:=d;simp only at *;unfold aA;cases dn with
 | true =>
  (simp(disch:=first|decide|omega|(intros;exact aj rfl rfl)|simp only[aa]) only[xj,Dsk.l,go_sem,seval,ai])
  try simp[zR,Dsk.l,hx0,hx1]
 | false =>
  by_cases he:e=0
  ·subst he;cases ar with
   | false =>
    obtain⟨B,hB⟩:=hdo (.cells [.d (.l (fl.map Fil.enc)),zI cp,zB false,zI lf,zB false]) (.cells [.ns,zI 0,zB false,zI 0,zB false]);have hB:=hB rfl rfl;(simp(disch:=first|decide|omega|(intros;exact aj rfl rfl)|simp only[aa]) only[xj,Dsk.l,↓hcl,↓hf,↓hB,zM,go_sem,seval,ai])
    try simp[zR,Dsk.l,hx0,hx1]
   | true =>
    obtain⟨B,hB⟩:=hdo (.cells [.d (.l (fl.map Fil.enc)),zI cp,zB true,zI lf,zB false]) (.cells [.ns,zI 0,zB false,zI 0,zB false]);have hB:=hB rfl rfl;by_cases hz:lf=0
    ·subst hz;(simp(disch:=first|decide|omega|(intros;exact aj rfl rfl)|simp only[aa]) only[xj,Dsk.l,↓hcl,↓hf,↓hB,zM,go_sem,seval,ai])
     try simp[zR,Dsk.l,hx0,hx1]
    ·(simp(disch:=first|decide|omega|(intros;exact aj rfl rfl)|simp only[aa]) only[xj,Dsk.l,↓hcl,↓hf,↓hB,zM,hz,go_sem,seval,ai])
     try simp[zR,Dsk.l,hx0,hx1,hz]
  ·obtain⟨B,hB⟩:=hdo (.cells [.d (.l (fl.map Fil.enc)),zI cp,zB ar,zI lf,zB false]) (.cells [.ns,zI 0,zB false,zI 0,zB false]);have hB:=hB rfl rfl;(simp(disch:=first|decide|omega|(intros;exact aj rfl rfl)|simp only[aa]) only[xj,Dsk.l,↓hcl,↓hf,↓hB,zM,he,go_sem,seval,ai])
   try simp[zR,Dsk.l,hx0,hx1,he]
def gt (l:List Fil) (k:Nat) (f:Fil):List Fil:=l.take k++f::l.drop k
def cN (l:List Fil) (n:Txt):List Fil × Int:=if hI n=true then(if bA l n=true then([],8) else(gt l (aw l n) ⟨n,[],0⟩,0)) else([],1)
theorem bM {l:List Fil} {n:Txt} (h:bA l n=true):∃ hp:aw l n<l.length,l[aw l n].name=n:=by
 unfold bA at h;split at h
 ·rename_i f hf;obtain⟨hp,rfl⟩:=List.getElem?_eq_some_iff.1 hf;exact⟨hp,by simpa using h⟩
 ·cases h
theorem um (l:List Fil) (k:Nat) (f:Fil):(l.map Fil.enc).take k++f.enc::(l.map Fil.enc).drop k=(gt l k f).map Fil.enc:=by simp[gt]
theorem nZ (ρ:Nat->Option Nat) (xs:List L):Box.ren ρ (.cells xs)=.cells (xs.map (L.ren ρ)):=rfl
def ki (fs:List Fil) (e:Int):V:=.tup [(false,[.d (.l (fs.map Fil.enc))]),(false,[zI e])]
theorem uG (l:List Fil) (k:Nat) (f:Fil) (h:k<=l.length):(gt l k f).length=l.length+1:=by simp[gt];omega
theorem uD (l:List Fil) (hl:l.length<=1000000) (n:Txt):∃ B:Box,(∀ ρ,B.ren ρ=B)∧call 121 [.one (.sl 0 3 0 l.length),vi (aw l n:Nat),vb (bA l n),.one (.p 1 0)] [.arr 3 (l.map Fil.enc) 0,.cells [zS n]]=some (ki (cN l n).1 (cN l n).2,[B,.cells [zS n]]):=by
 have hn:=qt n;unfold cN ki;cases c:hI n with
 | false =>
  refine⟨.arr 3 (l.map Fil.enc) 0,fun _=>rfl,?_⟩
  apply ah JP rfl;rw[c] at hn;(simp(disch:=first|decide|omega|(intros;exact aj rfl rfl)|simp only[aa]) only[FP,hn,go_sem,seval,ai])
  try simp[zR]
 | true =>
  rw[c] at hn;cases c2:bA l n with
  | true =>
   refine⟨.arr 3 (l.map Fil.enc) 0,fun _=>rfl,?_⟩
   apply ah JP rfl;(simp(disch:=first|decide|omega|(intros;exact aj rfl rfl)|simp only[aa]) only[FP,hn,go_sem,seval,ai])
   try simp[zR]
  | false =>
   refine⟨.dead,fun _=>rfl,?_⟩
   apply ah JP rfl;have hp:=mq l n;have hi0:=Ds (l:=lib) (an:=tN HT) (P:=Tryz.prog) (f:=123) (k:=3) (bytes:=40) rfl rfl (l.map Fil.enc) (Fil.enc ⟨n,[],0⟩) (aw l n) 0 rfl (by simpa using hp) (by simp;omega) (by simp;omega)
   rw[um,zM] at hi0;have hi:∀ C:Box,az call 123 [.one (.sl 0 3 0 l.length),vi (aw l n:Nat),.one (.sl 2 3 0 1)] [.arr 3 (l.map Fil.enc) 0,C,.arr 3 [[.s n,.s [],.i .i64 0]] 0]=some (.one (.sl 3 3 0 (l.length+1)),[.dead,C,.arr 3 [[.s n,.s [],.i .i64 0]] 0,.arr 3 ((gt l (aw l n) ⟨n,[],0⟩).map Fil.enc) 0]):=fun C =>
    aP (ids:=[0,2]) rfl rfl rfl hi0 rfl
   have hll:=uG l (aw l n) ⟨n,[],0⟩ hp;generalize gt l (aw l n) ⟨n,[],0⟩=q at *;have htk:(q.map Fil.enc).take (l.length+1)=q.map Fil.enc:=zL (by simp;omega)
   (simp(disch:=first|decide|omega|(intros;exact aj rfl rfl)|simp only[aa]) only[FP,hn,↓hi,zM,hll,htk,go_sem,seval,ai])
   try simp[zR]
def aR (r:Dsk × Int):V:=.tup [(true,r.1.l),(false,[zI r.2])]
structure Dsk.ok (d:Dsk):Prop where
 len:d.files.length<=1000000
 srt:srt d.files
 left:0<=d.left∧d.left<9223372036854775808
 cap:0<=d.cap∧d.cap<9223372036854775808
 used:usedF d.files<=1000000000000
theorem w6 (d:Dsk) (hd:d.ok) (n:Txt):call 91 [.agg d.l,vs n] []=some (aR (aA d (cN d.files n)),[]):=by
 apply ah Pb rfl;have h0:=uj d hd.len hd.srt hd.left n 121 [zS n] rfl (cN d.files n).1 (cN d.files n).2 (fun D R=>by
  obtain⟨B,hB,h⟩:=uD d.files hd.len n;exact⟨B,fun _ _=>aP (ids:=[4,0]) rfl rfl rfl h (by simp[bB,hB,ki,V.ren,L.ren,nZ])⟩)
 have h:∀ D R:Box,az call 86 [.agg d.l,vs n,.one (.f 121 [1])] [D,.cells [zS n],R]=some (aR (aA d (cN d.files n)),[D,.cells [zS n],R]):=fun D R =>
  aP (ids:=[1]) rfl rfl rfl h0 rfl
 generalize aA d (cN d.files n)=r at *;obtain⟨⟨f2,cp2,ar2,lf2,dn2⟩,e2⟩:=r;obtain⟨fl,cp,ar,lf,dn⟩:=d;simp only[aR,Dsk.l] at h ⊢;(simp(disch:=first|decide|omega|(intros;exact aj rfl rfl)|simp only[aa]) only[aH,Nj,↓h,go_sem,seval,ai])
 try simp[trim]
def rZ (l:List Fil) (k:Nat) (g:Fil->Fil):List Fil:=match l[k]? with|some f=>l.set k (g f)|none=>l
theorem iz {l:List Fil} {k:Nat} (h:k<l.length) (g:Fil->Fil):rZ l k g=l.set k (g l[k]):=by unfold rZ;rw[zE h]
theorem va (l:List Fil) (k:Nat) (g:Fil->Fil):(rZ l k g).length=l.length:=by unfold rZ;split <;> simp
def dg (l:List Fil) (cap:Int) (n x:Txt):List Fil × Int:=if bA l n=true then(if 0<cap∧cap-(usedF l:Nat)<x.length then([],9) else(rZ l (aw l n) (fun f=>{ f with data:=f.data++x }),0)) else([],7)
def di (l:List Fil) (n:Txt):List Fil × Int:=if bA l n=true then(rZ l (aw l n) (fun f=>{ f with sure:=f.data.length }),0) else([],7)
def cR (l:List Fil) (k:Nat):List Fil:=l.take k++l.drop (k+1)
def b7 (l:List Fil) (n:Txt):List Fil × Int:=if bA l n=true then(cR l (aw l n),0) else([],7)
theorem iZ (l:List Fil) (k:Nat) (h:k<l.length):l[k].data.length<=usedF l:=by
 have e:l=l.take k++([l[k]]++l.drop (k+1)):=by rw[List.singleton_append,<- zD h,zY]
 have:usedF l=usedF (l.take k)+(usedF [l[k]]+usedF (l.drop (k+1))):=by
  rw[<- bV,<- bV,<- e]
 rw[fj] at this;omega
theorem Fil.ix1 (f:Fil):f.enc[1]?=some (.s f.data):=Eq.trans rfl rfl
theorem Fil.ix2 (f:Fil):f.enc[2]?=some (.i .i64 f.sure):=Eq.trans rfl rfl
theorem uo (d:Dsk) (hd:d.ok) (n x:Txt) (hx:x.length<=1000000000000):∃ B:Box,(∀ ρ,B.ren ρ=B)∧call 128 [.one (.sl 0 3 0 d.files.length),vi (aw d.files n:Nat),vb (bA d.files n),.one (.p 1 0),.one (.p 2 0)] [.arr 3 (d.files.map Fil.enc) 0,.cells d.l,.cells [zS x]]=some (ki (dg d.files d.cap n x).1 (dg d.files d.cap n x).2,[B,.cells d.l,.cells [zS x]]):=by
 have hu:=BU d hd.len hd.used;have hub:=hd.used;have hc:=hd.cap;have hln:=hd.len;unfold dg ki;obtain⟨l,cp,ar,lf,dn⟩:=d;simp only at hu hub hc hln ⊢;cases c:bA l n with
 | false =>
  refine⟨.arr 3 (l.map Fil.enc) 0,fun _=>rfl,?_⟩
  apply ah JG rfl;(simp(disch:=first|decide|omega|(intros;exact aj rfl rfl)|simp only[aa]) only[Cs,go_sem,seval,ai])
  try simp[zR,Dsk.l]
 | true =>
  obtain⟨hp,hnm⟩:=bM c;obtain⟨k,hk⟩:∃ k,k=aw l n:=⟨_,rfl⟩;rw[iz hp];simp only[<- hk] at hp hnm ⊢;by_cases c1:0<cp∧cp-(usedF l:Nat)<x.length
  ·refine⟨.arr 3 (l.map Fil.enc) 0,fun _=>rfl,?_⟩
   apply ah JG rfl;obtain⟨c2,c3⟩:=c1;have hw:IntKind.i64.wrap (cp-((usedF l:Nat):Int))=cp-((usedF l:Nat):Int):=fR (by omega)
   have h2:(cp-((usedF l:Nat):Int)<((x.length:Nat):Int))=True:=eq_true c3;simp only[Dsk.l] at hu;(simp(disch:=first|decide|omega|(intros;exact aj rfl rfl)|simp only[aa]) only[Cs,Dsk.l,hu,hw,c2,h2,go_sem,seval,ai])
   try simp[zR,Dsk.l,c2,c3]
  ·have hle:=iZ l k hp;have g1:(l.map Fil.enc)[k]?=some l[k].enc:=by simp[hp]
   have hset:(l.map Fil.enc).set k (Fil.enc { l[k] with data:=l[k].data++x })=(l.set k { l[k] with data:=l[k].data++x }).map Fil.enc:=by rw[List.map_set]
   have hup:=Fil.up1 l[k] (l[k].data++x);have hlen:l[k].data.length+x.length<=9223372036854775807:=by omega
   refine⟨.arr 3 ((l.set k { l[k] with data:=l[k].data++x }).map Fil.enc) l.length,fun _=>rfl,?_⟩
   apply ah JG rfl;have htk:((l.set k { l[k] with data:=l[k].data++x }).map Fil.enc).take l.length=(l.set k { l[k] with data:=l[k].data++x }).map Fil.enc:=zL (by simp)
   have hll:((l.set k { l[k] with data:=l[k].data++x }).map Fil.enc).length=l.length:=by simp
   by_cases c2:0<cp
   ·have c3:¬ cp-(usedF l:Nat)<x.length:=fun h=>c1 ⟨c2,h⟩
    have hw:IntKind.i64.wrap (cp-((usedF l:Nat):Int))=cp-((usedF l:Nat):Int):=fR (by omega)
    simp only[Dsk.l] at hu;(simp(disch:=first|decide|omega|(intros;exact aj rfl rfl)|simp only[aa]) only[Cs,Dsk.l,hu,hw,c2,c3,g1,Fil.len,Fil.at1,Fil.ix1,hup,hset,hll,htk,hlen,go_sem,seval,ai])
    try simp[zR,Dsk.l,c2,c3]
   ·(simp(disch:=first|decide|omega|(intros;exact aj rfl rfl)|simp only[aa]) only[Cs,Dsk.l,c2,g1,Fil.len,Fil.at1,Fil.ix1,hup,hset,hll,htk,hlen,go_sem,seval,ai])
    try simp[zR,Dsk.l,c2]
theorem wT (d:Dsk) (hd:d.ok) (n x:Txt) (hx:x.length<=1000000000000):call 96 [.agg d.l,vs n,vs x] []=some (aR (aA d (dg d.files d.cap n x)),[]):=by
 apply ah O4 rfl;have hrf:d.l.flatMap L.refs=[]:=rfl;have h0:=Gb d hd.len hd.srt hd.left n 128 d.l hrf [zS x] rfl (dg d.files d.cap n x).1 (dg d.files d.cap n x).2 (fun D R=>by
  obtain⟨B,hB,h⟩:=uo d hd n x hx;exact⟨B,fun _ _=>aP (ids:=[5,0,1]) rfl rfl rfl h (by simp[bB,hB,ki,V.ren,L.ren,nZ,Dsk.l])⟩)
 have h:∀ D R:Box,az call 86 [.agg d.l,vs n,.one (.f 128 [0,1])] [.cells d.l,.cells [zS x],R]=some (aR (aA d (dg d.files d.cap n x)),[.cells d.l,.cells [zS x],R]):=fun D R =>
  aP (ids:=[0,1]) rfl rfl rfl h0 rfl
 have h:=h .dead;generalize aA d (dg d.files d.cap n x)=r at *;obtain⟨⟨f2,cp2,ar2,lf2,dn2⟩,e2⟩:=r;obtain⟨fl,cp,ar,lf,dn⟩:=d;simp only[aR,Dsk.l] at h ⊢;(simp(disch:=first|decide|omega|(intros;exact aj rfl rfl)|simp only[aa]) only[aH,NU,↓h,go_sem,seval,ai])
 try simp[trim]
theorem xB (l:List Fil) (hl:l.length<=1000000) (hu:usedF l<=1000000000000) (n:Txt):∃ B:Box,(∀ ρ,B.ren ρ=B)∧call 109 [.one (.sl 0 3 0 l.length),vi (aw l n:Nat),vb (bA l n)] [.arr 3 (l.map Fil.enc) 0]=some (ki (di l n).1 (di l n).2,[B]):=by
 unfold di ki;cases c:bA l n with
 | false =>
  refine⟨.arr 3 (l.map Fil.enc) 0,fun _=>rfl,?_⟩
  apply ah KH rfl;(simp(disch:=first|decide|omega|(intros;exact aj rfl rfl)|simp only[aa]) only[Iy,go_sem,seval,ai])
  try simp[zR]
 | true =>
  obtain⟨hp,hnm⟩:=bM c;obtain⟨k,hk⟩:∃ k,k=aw l n:=⟨_,rfl⟩;rw[iz hp];simp only[<- hk] at hp hnm ⊢;have hle:=iZ l k hp;have g1:(l.map Fil.enc)[k]?=some l[k].enc:=by simp[hp]
  have hset:(l.map Fil.enc).set k (Fil.enc { l[k] with sure:=(l[k].data.length:Nat) })=(l.set k { l[k] with sure:=(l[k].data.length:Nat) }).map Fil.enc:=by rw[List.map_set]
  have hup:=Fil.up2 l[k] (l[k].data.length:Nat);refine⟨.arr 3 ((l.set k { l[k] with sure:=(l[k].data.length:Nat) }).map Fil.enc) l.length,fun _=>rfl,?_⟩
  apply ah KH rfl;have htk:((l.set k { l[k] with sure:=(l[k].data.length:Nat) }).map Fil.enc).take l.length=(l.set k { l[k] with sure:=(l[k].data.length:Nat) }).map Fil.enc:=zL (by simp)
  have hll:((l.set k { l[k] with sure:=(l[k].data.length:Nat) }).map Fil.enc).length=l.length:=by simp
  (simp(disch:=first|decide|omega|(intros;exact aj rfl rfl)|simp only[aa]) only[Iy,g1,Fil.len,Fil.at1,Fil.ix1,Fil.ix2,hup,hset,hll,htk,go_sem,seval,ai])
  try simp[zR]
theorem oq (d:Dsk) (hd:d.ok) (n:Txt):call 59 [.agg d.l,vs n] []=some (aR (aA d (di d.files n)),[]):=by
 apply ah O1 rfl;have h0:=zz d hd.len hd.srt hd.left n 109 (di d.files n).1 (di d.files n).2 (fun D R=>by
  obtain⟨B,hB,h⟩:=xB d.files hd.len hd.used n;exact⟨B,fun _ _=>aP (ids:=[3]) rfl rfl rfl h (by simp[bB,hB,ki,V.ren,L.ren,nZ])⟩)
 have h:∀ H:Hp,az call 86 [.agg d.l,vs n,.one (.f 109 [])] H=some (aR (aA d (di d.files n)),H):=fun H=>callIso_pure rfl h0 rfl
 generalize aA d (di d.files n)=r at *;obtain⟨⟨f2,cp2,ar2,lf2,dn2⟩,e2⟩:=r;obtain⟨fl,cp,ar,lf,dn⟩:=d;simp only[aR,Dsk.l] at h ⊢;(simp(disch:=first|decide|omega|(intros;exact aj rfl rfl)|simp only[aa]) only[aH,NB,↓h,go_sem,seval,ai])
 try simp[trim]
theorem Ab (l:List Fil) (k:Nat):(l.map Fil.enc).take k++(l.map Fil.enc).drop (k+1)=(cR l k).map Fil.enc:=by simp[cR]
theorem mU (l:List Fil) (k:Nat) (h:k<l.length):(cR l k).length=l.length-1:=by simp[cR];omega
theorem uN (l:List Fil) (hl:l.length<=1000000) (n:Txt):∃ B:Box,(∀ ρ,B.ren ρ=B)∧call 87 [.one (.sl 0 3 0 l.length),vi (aw l n:Nat),vb (bA l n)] [.arr 3 (l.map Fil.enc) 0]=some (ki (b7 l n).1 (b7 l n).2,[B]):=by
 unfold b7 ki;cases c:bA l n with
 | false =>
  refine⟨.arr 3 (l.map Fil.enc) 0,fun _=>rfl,?_⟩
  apply ah NW rfl;(simp(disch:=first|decide|omega|(intros;exact aj rfl rfl)|simp only[aa]) only[LS,go_sem,seval,ai])
  try simp[zR]
 | true =>
  obtain⟨hp,hnm⟩:=bM c;refine⟨.dead,fun _=>rfl,?_⟩
  apply ah NW rfl;have hd0:=Fl (l:=lib) (an:=tN HT) (P:=Tryz.prog) (f:=88) (k:=3) rfl rfl rfl (l.map Fil.enc) (aw l n) (by simpa using hp) (by simp;omega)
  rw[Ab,zM] at hd0;have hi:az call 88 [.one (.sl 0 3 0 l.length),vi (aw l n:Nat),.one (zI (((aw l n:Nat):Int)+1))] [.arr 3 (l.map Fil.enc) 0]=some (.one (.sl 1 3 0 (l.length-1)),[.dead,.arr 3 ((cR l (aw l n)).map Fil.enc) 0]) :=
   aP (ids:=[0]) rfl rfl rfl hd0 rfl
  have hll:=mU l (aw l n) hp;generalize cR l (aw l n)=q at *;have htk:(q.map Fil.enc).take (l.length-1)=q.map Fil.enc:=zL (by simp;omega)
  (simp(disch:=first|decide|omega|(intros;exact aj rfl rfl)|simp only[aa]) only[LS,↓hi,zM,hll,htk,go_sem,seval,ai])
  try simp[zR]
theorem kV (d:Dsk) (hd:d.ok) (n:Txt):call 50 [.agg d.l,vs n] []=some (aR (aA d (b7 d.files n)),[]):=by
 apply ah OB rfl;have h0:=zz d hd.len hd.srt hd.left n 87 (b7 d.files n).1 (b7 d.files n).2 (fun D R=>by
  obtain⟨B,hB,h⟩:=uN d.files hd.len n;exact⟨B,fun _ _=>aP (ids:=[3]) rfl rfl rfl h (by simp[bB,hB,ki,V.ren,L.ren,nZ])⟩)
 have h:∀ H:Hp,az call 86 [.agg d.l,vs n,.one (.f 87 [])] H=some (aR (aA d (b7 d.files n)),H):=fun H=>callIso_pure rfl h0 rfl
 generalize aA d (b7 d.files n)=r at *;obtain⟨⟨f2,cp2,ar2,lf2,dn2⟩,e2⟩:=r;obtain⟨fl,cp,ar,lf,dn⟩:=d;simp only[aR,Dsk.l] at h ⊢;(simp(disch:=first|decide|omega|(intros;exact aj rfl rfl)|simp only[aa]) only[aH,NA,↓h,go_sem,seval,ai])
 try simp[trim]
theorem mX {l:List Fil} (h:srt l) (k:Nat):srt (cR l k):=by
 have:(cR l k).Sublist l:=by
  unfold cR;have e:l=l.take k++l.drop k:=(zY k l).symm;conv=>rhs;rw[e]
  exact List.Sublist.append (List.Sublist.refl _) (by rw[show k+1=k+1 from rfl,<- List.drop_drop];exact List.drop_sublist 1 _)
 exact List.Pairwise.sublist this h
def jD (l:List Fil) (f:Fil):List Fil:=if bA l f.name=true then l.set (aw l f.name) f else gt l (aw l f.name) f
def dK (l:List Fil) (k:Nat) (n:Txt):Fil:=match l[k]? with|some f=>{ f with name:=n }|none=>⟨n,[],0⟩
def jF (l:List Fil) (n t:Txt):List Fil × Int:=if bA l n=true then(if hI t=true then(jD (cR l (aw l n)) (dK l (aw l n) t),0) else([],1)) else([],7)
theorem vm (l:List Fil) (k:Nat) (n:Txt):(dK l k n).name=n:=by unfold dK;split <;> rfl
theorem AX (l:List Fil) (f:Fil):(jD l f).length<=l.length+1:=by
 unfold jD;split
 ·simp
 ·rw[uG _ _ _ (mq _ _)];omega
theorem uy (l:List Fil) (hl:l.length<=1000000) (hs:srt l) (n t:Txt):∃ B:Box,(∀ ρ,B.ren ρ=B)∧call 131 [.one (.sl 0 3 0 l.length),vi (aw l n:Nat),vb (bA l n),.one (.p 1 0)] [.arr 3 (l.map Fil.enc) 0,.cells [zS t]]=some (ki (jF l n t).1 (jF l n t).2,[B,.cells [zS t]]):=by
 have hn:=qt t;unfold jF ki;cases c:bA l n with
 | false =>
  refine⟨.arr 3 (l.map Fil.enc) 0,fun _=>rfl,?_⟩
  apply ah I0 rfl;(simp(disch:=first|decide|omega|(intros;exact aj rfl rfl)|simp only[aa]) only[ER,go_sem,seval,ai])
  try simp[zR]
 | true =>
  obtain⟨hp,hnm⟩:=bM c;cases cn:hI t with
  | false =>
   refine⟨.arr 3 (l.map Fil.enc) 0,fun _=>rfl,?_⟩
   apply ah I0 rfl;rw[cn] at hn;(simp(disch:=first|decide|omega|(intros;exact aj rfl rfl)|simp only[aa]) only[ER,hn,go_sem,seval,ai])
   try simp[zR]
  | true =>
   rw[cn] at hn;refine⟨.dead,fun _=>rfl,?_⟩
   apply ah I0 rfl;have hna:dK l (aw l n) t={ l[aw l n] with name:=t }:=by unfold dK;rw[zE hp]
   have g1:(l.map Fil.enc)[aw l n]?=some l[aw l n].enc:=by simp[hp]
   have hd0:=Fl (l:=lib) (an:=tN HT) (P:=Tryz.prog) (f:=88) (k:=3) rfl rfl rfl (l.map Fil.enc) (aw l n) (by simpa using hp) (by simp;omega)
   rw[Ab,zM] at hd0;have hi:∀ C D:Box,az call 88 [.one (.sl 0 3 0 l.length),vi (aw l n:Nat),.one (zI (((aw l n:Nat):Int)+1))] [.arr 3 (l.map Fil.enc) 0,C,D]=some (.one (.sl 3 3 0 (l.length-1)),[.dead,C,D,.arr 3 ((cR l (aw l n)).map Fil.enc) 0]):=fun C D =>
    aP (ids:=[0]) rfl rfl rfl hd0 rfl
   have hll:=mU l (aw l n) hp;have hsd:=mX hs (aw l n);obtain⟨f,hf⟩:∃ f,f=l[aw l n]:=⟨_,rfl⟩;rw[<- hf] at hna g1;rw[hna];have hlt:aw l n<l.length:=hp;generalize aw l n=p at *;generalize cR l p=q at *;have hfb:=nA q (by omega) hsd t
   rw[hll] at hfb;unfold ce at hfb;have hfi:∀ C D:Box,az call 48 [.one (.sl 3 3 0 (l.length-1)),vs t] [.dead,C,D,.arr 3 (q.map Fil.enc) 0]=some (.tup [(false,[zI (aw q t:Nat)]),(false,[zB (bA q t)])],[.dead,C,D,.arr 3 (q.map Fil.enc) 0]):=fun C D =>
    aP (ids:=[3]) rfl rfl rfl hfb rfl
   unfold jD;cases c2:bA q t with
   | true =>
    obtain⟨hp2,hnm2⟩:=bM c2;rw[c2] at hfi;have g2:(q.map Fil.enc)[aw q t]?=some q[aw q t].enc:=by simp[hp2]
    have hset:(q.map Fil.enc).set (aw q t) (Fil.enc { f with name:=t })=(q.set (aw q t) { f with name:=t }).map Fil.enc:=by rw[List.map_set]
    have hll2:((q.set (aw q t) { f with name:=t }).map Fil.enc).length=l.length-1:=by simp[hll]
    have htk:((q.set (aw q t) { f with name:=t }).map Fil.enc).take (l.length-1)=(q.set (aw q t) { f with name:=t }).map Fil.enc:=zL (by omega)
    have hfe:Fil.enc { f with name:=t }=[.s t,.s f.data,.i .i64 f.sure]:=rfl
    have hfe2:f.enc=[.s f.name,.s f.data,.i .i64 f.sure]:=rfl;have hdr:q[aw q t].enc.drop 3=[]:=rfl;rw[hfe] at hset;rw[hfe2] at g1;(simp(disch:=first|decide|omega|(intros;exact aj rfl rfl)|simp only[aa]) only[ER,hn,g1,↓hi,↓hfi,g2,hset,hll2,htk,Fil.len,List.map_cons,List.map_nil,hdr,List.append_nil,List.nil_append,List.length_cons,List.length_nil,go_sem,seval,ai])
    try simp[zR,c2]
   | false =>
    rw[c2] at hfi;have hp2:=mq q t;have hi0:=Ds (l:=lib) (an:=tN HT) (P:=Tryz.prog) (f:=123) (k:=3) (bytes:=40) rfl rfl (q.map Fil.enc) (Fil.enc { f with name:=t }) (aw q t) 0 rfl (by simpa using hp2) (by simp;omega) (by simp;omega)
    rw[um,zM,hll] at hi0;have hil:=uG q (aw q t) { f with name:=t } hp2
    have hin:∀ C D:Box,az call 123 [.one (.sl 3 3 0 (l.length-1)),vi (aw q t:Nat),.one (.sl 4 3 0 1)] [.dead,C,D,.arr 3 (q.map Fil.enc) 0,.arr 3 [[.s t,.s f.data,.i .i64 f.sure]] 0]=some (.one (.sl 5 3 0 (l.length-1+1)),[.dead,C,D,.dead,.arr 3 [[.s t,.s f.data,.i .i64 f.sure]] 0,.arr 3 ((gt q (aw q t) { f with name:=t }).map Fil.enc) 0]):=fun C D =>
     aP (ids:=[3,4]) rfl rfl rfl hi0 rfl
    generalize gt q (aw q t) { f with name:=t }=z at *
    have htk:(z.map Fil.enc).take (l.length-1+1)=z.map Fil.enc:=zL (by simp;omega)
    have hzl:z.length=l.length-1+1:=by omega
    have hfe2:f.enc=[.s f.name,.s f.data,.i .i64 f.sure]:=rfl;rw[hfe2] at g1;(simp(disch:=first|decide|omega|(intros;exact aj rfl rfl)|simp only[aa]) only[ER,hn,g1,↓hi,↓hfi,↓hin,zM,hzl,htk,Fil.len,List.map_cons,List.map_nil,List.append_nil,List.nil_append,List.length_cons,List.length_nil,go_sem,seval,ai])
    try simp[zR,c2]
theorem wM (d:Dsk) (hd:d.ok) (n t:Txt):call 100 [.agg d.l,vs n,vs t] []=some (aR (aA d (jF d.files n t)),[]):=by
 apply ah L3 rfl;have h0:=uj d hd.len hd.srt hd.left n 131 [zS t] rfl (jF d.files n t).1 (jF d.files n t).2 (fun D R=>by
  obtain⟨B,hB,h⟩:=uy d.files hd.len hd.srt n t;exact⟨B,fun _ _=>aP (ids:=[4,0]) rfl rfl rfl h (by simp[bB,hB,ki,V.ren,L.ren,nZ])⟩)
 have h:∀ D R:Box,az call 86 [.agg d.l,vs n,.one (.f 131 [1])] [D,.cells [zS t],R]=some (aR (aA d (jF d.files n t)),[D,.cells [zS t],R]):=fun D R =>
  aP (ids:=[1]) rfl rfl rfl h0 rfl
 generalize aA d (jF d.files n t)=r at *;obtain⟨⟨f2,cp2,ar2,lf2,dn2⟩,e2⟩:=r;obtain⟨fl,cp,ar,lf,dn⟩:=d;simp only[aR,Dsk.l] at h ⊢;(simp(disch:=first|decide|omega|(intros;exact aj rfl rfl)|simp only[aa]) only[aH,Ld,↓h,go_sem,seval,ai])
 try simp[trim]
def NL (c:Nat->Int):List L:=(List.range 14).map fun j=>zU (c j)
theorem xn (c:Nat->Int):(NL c).length=14:=by simp[NL]
theorem Eo (c:Nat->Int) (n:Nat) (x:Int) (h:n<14):(NL c).take n++[zU x]++(NL c).drop (n+1)=NL (fun j=>if j=n then x else c j):=by
 rw[List.append_assoc,List.singleton_append];apply List.ext_getElem?;intro j;have hl:((NL c).take n).length=n:=by rw[zQ,xn];omega
 by_cases hj:j<14
 ·have e:∀ c:Nat->Int,(NL c)[j]?=some (zU (c j)):=fun c=>by simp[NL,hj]
  rw[e];rcases Nat.lt_trichotomy j n with h1|h1|h1
  ·rw[List.getElem?_append_left (by omega),List.getElem?_take,if_pos h1,e,if_neg (by omega)]
  ·subst h1;rw[List.getElem?_append_right (by omega),hl,Nat.sub_self,if_pos rfl];rfl
  ·rw[List.getElem?_append_right (by omega),hl,if_neg (by omega)]
   obtain⟨m,hm⟩:∃ m,j-n=m+1:=⟨j-n-1,by omega⟩
   rw[hm,List.getElem?_cons_succ,List.getElem?_drop,show n+1+m=j by omega,e]
 ·rw[List.getElem?_eq_none (by simp[NL];omega),List.getElem?_eq_none (by simp[NL];omega)]
def jt (n j:Nat):Nat:=48+n / 10 ^ (13-j) % 10
def nz (c:UInt8) (n:Nat):Txt:=c::(List.range 13).map fun j=>UInt8.ofNat (jt n (j+1))
def cF (n i:Nat) (j:Nat):Int:=if j<=i then 0 else((jt n j:Nat):Int)
theorem Gq (n i:Nat) (h:1<=i∧i<=13):(fun j=>if j=i then(48+((n / 10 ^ (13-i) % 10:Nat):Int)) else cF n i j)=cF n (i-1):=by
 funext j
 unfold cF jt;by_cases h1:j=i
 ·subst h1;rw[if_pos rfl,if_neg (by omega)];omega
 ·rw[if_neg h1];by_cases h2:j<=i
  ·rw[if_pos h2,if_pos (by omega)]
  ·rw[if_neg h2,if_neg (by omega)]
theorem FT:[zU 0,zU 0,zU 0,zU 0,zU 0,zU 0,zU 0,zU 0,zU 0,zU 0,zU 0,zU 0,zU 0,zU 0]=NL (fun _=>0):=rfl
theorem Kr (n:Nat):NL (fun _=>0)=NL (cF n 13):=by
 unfold NL;apply List.map_congr_left;intro j hj;rw[List.mem_range] at hj;unfold cF;rw[if_pos (by omega)]
theorem Dg (n i:Nat) (h:1<=i∧i<=13):n / 10 ^ (13-i) / 10=n / 10 ^ (13-(i-1)):=by
 rw[Nat.div_div_eq_div_mul,<- Nat.pow_succ];congr 2;omega
theorem sJ (c:UInt8) (n:Nat) (hn:n<=1099511627776):call 92 [vk .u8 ((c.toNat:Nat):Int),vi n] []=some (vs (nz c n),[]):=by
 apply ah Oa rfl;obtain⟨Z,hZ⟩:∃ Z:V × Hp,Z=(vs (nz c n),[]):=⟨_,rfl⟩;rw[<- hZ];have hz:=FT;(simp(disch:=first|decide|omega|(intros;exact aj rfl rfl)|simp only[aa]) only[Nx,hz,Kr n,go_sem,seval,ai])
 refine aE (m:=0) (σ:=Nat) (fun i=>i) (fun i=>i<=13) (fun i=>[vk .u8 ((c.toNat:Nat):Int),vi (n / 10 ^ (13-i):Nat),V.one (.p 0 0),vi i]) (fun i=>[.cells (NL (cF n i))]) (fun _=>Z) ?_ 13 (Nat.le_refl _) _ _ ?_
 rotate_left
 ·have e:n / 10 ^ (13-13)=n:=by simp
  rw[e];exact bv
 intro i hi R hR;by_cases c1:0<i
 ·have hR':=hR (i-1) (by omega) (by omega)
  rw[<- Gq n i (by omega),<- Dg n i (by omega)] at hR'
  obtain⟨q,hq⟩:∃ q,q=n / 10 ^ (13-i):=⟨_,rfl⟩;rw[<- hq] at hR' ⊢;have hqn:q<=n:=by rw[hq];exact Nat.div_le_self _ _
  have hm:((q:Nat):Int).tmod 10=((q % 10:Nat):Int):=by rw[Int.tmod_eq_emod_of_nonneg (by omega)];omega
  have hd:((q:Nat):Int).tdiv 10=((q / 10:Nat):Int):=by rw[Int.tdiv_eq_ediv_of_nonneg (by omega)];omega
  have hset:=Eo (cF n i) i (48+((q % 10:Nat):Int)) (by omega)
  have hsub:(i:Int)-1=((i-1:Nat):Int):=by omega
  (simp(disch:=first|decide|omega|(intros;exact aj rfl rfl)|simp only[aa]) only[Fm,c1,hm,hd,hset,xn,Nat.mul_one,Nat.zero_add,hsub,go_sem,seval,ai])
  exact hR' _ _ bv
 ·have h0:i=0:=by omega
  subst h0;have hset:=Eo (cF n 0) 0 ((c.toNat:Nat):Int) (by decide)
  have hex:NL (fun j=>if j=0 then((c.toNat:Nat):Int) else cF n 0 j)=[zU ((c.toNat:Nat):Int),zU (jt n 1:Nat),zU (jt n 2:Nat),zU (jt n 3:Nat),zU (jt n 4:Nat),zU (jt n 5:Nat),zU (jt n 6:Nat),zU (jt n 7:Nat),zU (jt n 8:Nat),zU (jt n 9:Nat),zU (jt n 10:Nat),zU (jt n 11:Nat),zU (jt n 12:Nat),zU (jt n 13:Nat)]:=rfl
  simp only[List.take_zero,List.nil_append] at hset;rw[hex] at hset;(simp(disch:=first|decide|omega|(intros;exact aj rfl rfl)|simp only[aa]) only[Fm,c1,hset,xn,Nat.mul_one,Nat.zero_add,List.nil_append,dL,Int.toNat_natCast,List.map_cons,List.map_nil,UInt8.ofNat_toNat,go_sem,seval,ai])
  rw[hZ];try rfl
theorem Do (n:Nat) (hn:n<=1099511627776):call 52 [vi n] []=some (vs (nz 115 n),[]):=by
 apply ah O0 rfl;have h:=sJ 115 n hn;have e:(((115:UInt8).toNat:Nat):Int)=115:=rfl;rw[e] at h;(simp(disch:=first|decide|omega|(intros;exact aj rfl rfl)|simp only[aa]) only[NV,h,go_sem,seval,ai])
 try simp[trim]
structure Man where
 ver:Int
 segs:List Int
 size:Int
 sum:Int
def eI (n:Int):List D:=[.i .i64 n]
theorem cE (n:Int):(eI n).length=1:=Eq.trans rfl rfl
theorem dX (n:Int):(eI n)[0]?=some (.i .i64 n):=Eq.trans rfl rfl
def Man.l (m:Man):List L:=[zI m.ver,.d (.l (m.segs.map eI)),zI m.size,zW m.sum]
def mM:Int->List Int->Bool
 | _,[]=>true
 | a,n::l=>decide (a<n∧n<=1099511627776) && mM n l
def manB (m:Man):Bool:=decide (1<=m.ver∧m.ver<=1099511627776∧1<=m.segs.length∧m.segs.length<=64) && (mM (-1) m.segs && (if m.segs.head?=some 0 then decide (m.size=0∧m.sum=0) else decide (0<m.size∧m.size<=65536)))
theorem sW {l:List Int} {i:Nat} (a:Int) (h:i<l.length):mM a (l.drop i)=(decide (a<l[i]∧l[i]<=1099511627776) && mM l[i] (l.drop (i+1))):=by
 rw[zD h];rfl
theorem jb (m:Man) (hl:m.segs.length<=1000000):call 104 [.agg m.l] []=some (vb (manB m),[]):=by
 obtain⟨ver,segs,size,sum⟩:=m;unfold manB Man.l;simp only at hl ⊢;apply ah MN rfl;by_cases c1:1<=ver
 ·by_cases c2:ver<=1099511627776
  ·by_cases c3:1<=segs.length
   ·by_cases c4:segs.length<=64
    ·rw[decide_eq_true ⟨c1,c2,c3,c4⟩,Bool.true_and];obtain⟨Z,hZ⟩:∃ Z:V × Hp,Z=(vb (mM (-1) segs && (if segs.head?=some 0 then decide (size=0∧sum=0) else decide (0<size∧size<=65536))),[]):=⟨_,rfl⟩
     rw[<- hZ];(simp(disch:=first|decide|omega|(intros;exact aj rfl rfl)|simp only[aa]) only[BY,c1,c2,c3,c4,go_sem,seval,ai])
     refine aE (m:=0) (σ:=Nat × Int) (fun t=>segs.length-t.1) (fun t=>t.1<=segs.length∧mM (-1) segs=mM t.2 (segs.drop t.1)) (fun t=>[V.one (.p 0 0),vi t.2,vl (segs.map eI),vi segs.length,vi t.1])
      (fun _=>[.cells [zI ver,.d (.l (segs.map eI)),zI size,zW sum]]) (fun _=>Z) ?_ (0,-1) ⟨zP _,rfl⟩ _ _ ?_
     rotate_left
     ·exact bv
     rintro⟨i,a⟩ ⟨hi,hinc⟩ R hR;simp only at hi hinc ⊢;by_cases c5:i<segs.length
     ·have g1:(segs.map eI)[i]?=some (eI segs[i]):=by simp[c5]
      rw[sW a c5] at hinc;by_cases c6:segs[i]<=a
      ·have hd:decide (a<segs[i]∧segs[i]<=1099511627776)=false:=zF (by omega)
       rw[hd,Bool.false_and] at hinc;rw[hinc,Bool.false_and] at hZ;(simp(disch:=first|decide|omega|(intros;exact aj rfl rfl)|simp only[aa]) only[jf,g1,cE,dX,c6,go_sem,seval,ai])
       rw[hZ]
      ·by_cases c7:segs[i]<=1099511627776
       ·have hd:decide (a<segs[i]∧segs[i]<=1099511627776)=true:=zT (by omega)
        rw[hd,Bool.true_and] at hinc;(simp(disch:=first|decide|omega|(intros;exact aj rfl rfl)|simp only[aa]) only[jf,g1,cE,dX,c6,c7,go_sem,seval,ai])
        exact hR (i+1,segs[i]) (by simp only[];omega) ⟨by simp only[];omega,hinc⟩ _ _ bv
       ·have hd:decide (a<segs[i]∧segs[i]<=1099511627776)=false:=zF (by omega)
        rw[hd,Bool.false_and] at hinc;rw[hinc,Bool.false_and] at hZ;(simp(disch:=first|decide|omega|(intros;exact aj rfl rfl)|simp only[aa]) only[jf,g1,cE,dX,c6,c7,go_sem,seval,ai])
        rw[hZ]
     ·rw[List.drop_of_length_le (by omega)] at hinc
      have hinc2:mM (-1) segs=true:=hinc;rw[hinc2,Bool.true_and] at hZ;have g0:(segs.map eI)[0]?=some (eI segs[0]):=by rw[zG,zE c3];rfl
      have hh:segs.head?=some segs[0]:=by rw[List.head?_eq_getElem?];simp
      rw[hh] at hZ;by_cases z:segs[0]=0
      ·rw[if_pos (by rw[z])] at hZ
       by_cases z2:size=0
       ·by_cases z3:sum=0
        ·(simp(disch:=first|decide|omega|(intros;exact aj rfl rfl)|simp only[aa]) only[jf,c5,g0,cE,dX,z,z2,z3,go_sem,seval,ai])
         rw[hZ];simp[z2,z3]
        ·(simp(disch:=first|decide|omega|(intros;exact aj rfl rfl)|simp only[aa]) only[jf,c5,g0,cE,dX,z,z2,z3,go_sem,seval,ai])
         rw[hZ];simp[z2,z3]
       ·(simp(disch:=first|decide|omega|(intros;exact aj rfl rfl)|simp only[aa]) only[jf,c5,g0,cE,dX,z,z2,go_sem,seval,ai])
        rw[hZ];simp[z2]
      ·rw[if_neg (by simpa using z)] at hZ
       by_cases z2:0<size
       ·by_cases z3:size<=65536
        ·(simp(disch:=first|decide|omega|(intros;exact aj rfl rfl)|simp only[aa]) only[jf,c5,g0,cE,dX,z,z2,z3,go_sem,seval,ai])
         rw[hZ];simp[z2,z3]
        ·(simp(disch:=first|decide|omega|(intros;exact aj rfl rfl)|simp only[aa]) only[jf,c5,g0,cE,dX,z,z2,z3,go_sem,seval,ai])
         rw[hZ];simp[z2,z3]
       ·(simp(disch:=first|decide|omega|(intros;exact aj rfl rfl)|simp only[aa]) only[jf,c5,g0,cE,dX,z,z2,go_sem,seval,ai])
        rw[hZ];simp[z2]
    ·rw[zF (fun h=>c4 h.2.2.2),Bool.false_and]
     (simp(disch:=first|decide|omega|(intros;exact aj rfl rfl)|simp only[aa]) only[BY,c1,c2,c3,c4,go_sem,seval,ai])
     try simp[trim]
   ·rw[zF (fun h=>c3 h.2.2.1),Bool.false_and]
    (simp(disch:=first|decide|omega|(intros;exact aj rfl rfl)|simp only[aa]) only[BY,c1,c2,c3,go_sem,seval,ai])
    try simp[trim]
  ·rw[zF (fun h=>c2 h.2.1),Bool.false_and]
   (simp(disch:=first|decide|omega|(intros;exact aj rfl rfl)|simp only[aa]) only[BY,c1,c2,go_sem,seval,ai])
   try simp[trim]
 ·rw[zF (fun h=>c1 h.1),Bool.false_and]
  (simp(disch:=first|decide|omega|(intros;exact aj rfl rfl)|simp only[aa]) only[BY,c1,go_sem,seval,ai])
  try simp[trim]
structure Man.ok (m:Man):Prop where
 len:m.segs.length<=1000000
 sum:0<=m.sum∧m.sum<4294967296
theorem d5 {m:Man} (h:manB m=true):(1<=m.ver∧m.ver<=1099511627776)∧(1<=m.segs.length∧m.segs.length<=64)∧mM (-1) m.segs=true∧(0<=m.size∧m.size<=65536):=by
 unfold manB at h;simp only[Bool.and_eq_true,decide_eq_true_eq] at h;obtain⟨⟨h1,h2,h3,h4⟩,h5,h6⟩:=h;refine⟨⟨h1,h2⟩,⟨h3,h4⟩,h5,?_⟩;split at h6 <;> simp only[decide_eq_true_eq] at h6 <;> omega
theorem db:∀ (l:List Int) (a:Int),mM a l=true->∀ n∈l,a<n∧n<=1099511627776
 | [],_,_,n,hn=>by cases hn
 | x::l,a,h,n,hn=>by
  simp only[mM,Bool.and_eq_true,decide_eq_true_eq] at h;rcases List.mem_cons.1 hn with rfl|hn
  ·exact h.1
  ·have:=db l x h.2 n hn;omega
def aN (l:List Int):Txt:=l.flatMap fun n=>au n.toNat
theorem gQ (a b:List Int):aN (a++b)=aN a++aN b:=List.flatMap_append
theorem tX {n:Nat} (h:n<9223372036854775808):1<=(au n).length∧(au n).length<=9:=⟨fD n,gv h⟩
theorem lw:∀ (l:List Int),(∀ n∈l,0<=n∧n<9223372036854775808)->(aN l).length<=9*l.length
 | [],_=>by simp[aN]
 | n::l,h=>by
  have ih:=lw l (fun x hx=>h x (List.mem_cons_of_mem _ hx))
  have:=(tX (n:=n.toNat) (by have:=h n (by simp);omega)).2
  have e:aN (n::l)=au n.toNat++aN l:=rfl;rw[e,zA,List.length_cons];omega
def eY (m:Man):gy:=BitVec.ofNat 32 m.sum.toNat
def aU (m:Man):Txt:=aN (m.ver::(m.segs.length:Int)::m.segs++[m.size])++co (eY m)
def bu (m:Man):Txt:=bN (aU m)
theorem ja {m:Man} (h:manB m=true):1<=(aU m).length∧(aU m).length<=700:=by
 obtain⟨h1,h2,h3,h4⟩:=d5 h;have hm:=db _ _ h3;have hl:=lw (m.ver::(m.segs.length:Int)::m.segs++[m.size]) (by
  intro n hn;simp only[List.cons_append,List.mem_cons,zX,List.not_mem_nil,or_false] at hn;rcases hn with rfl|rfl|hn|rfl
  ·omega
  ·omega
  ·have:=hm n hn;omega
  ·omega)
 unfold aU;rw[zA,cH];simp only[List.cons_append,List.length_cons,zA,List.length_nil] at hl ⊢;omega
def aX (m:Man):Txt × Int:=if manB m=true then(bu m,0) else([],1)
theorem wC (m:Man) (hm:m.ok):call 93 [.agg m.l] []=some (.tup [(false,[.d (.s (aX m).1)]),(false,[.d (.i .i64 (aX m).2)])],[]):=by
 have hr:=jb m hm.len;unfold aX;cases c:manB m with
 | false =>
  rw[c] at hr;apply ah NI rfl;simp only[Man.l] at hr;(simp(disch:=first|decide|omega|(intros;exact aj rfl rfl)|simp only[aa]) only[L7,Man.l,hr,go_sem,seval,ai])
  try simp[trim]
 | true =>
  rw[c] at hr;have hb:=ja c;obtain⟨h1,h2,h3,h4⟩:=d5 c;have hmem:=db _ _ h3;have hsum:=hm.sum;have hf:call 126 [.one (zW m.sum)] []=some (vs (co (eY m)),[]):=by
   have:=oQ (eY m);have e:(((eY m).toNat:Nat):Int)=m.sum:=by unfold eY;simp;omega
   rw[e] at this;exact this
  have hp:=sD (aU m) (by omega)
  unfold vv at hp;rw[if_pos ⟨hb.1,by omega⟩] at hp
  have q1:=HG (n:=m.ver) (by omega) (by omega)
  have q2:=HG (n:=(m.segs.length:Int)) (by omega) (by omega)
  rw[Int.toNat_natCast] at q2;have q3:=HG (n:=m.size) (by omega) (by omega)
  have l1:=(tX (n:=m.ver.toNat) (by omega)).2
  have l2:=(tX (n:=m.segs.length) (by omega)).2
  have l3:=(tX (n:=m.size.toNat) (by omega)).2
  unfold bu;have hbd:aU m=((au m.ver.toNat++au m.segs.length)++aN m.segs++au m.size.toNat)++co (eY m):=by
   unfold aU;simp[aN,List.append_assoc]
  rw[hbd] at hp hb ⊢;have h4l:=cH (eY m);generalize co (eY m)=F4 at *;obtain⟨ver,segs,size,sum⟩:=m;simp only[Man.l] at *;apply ah NI rfl;obtain⟨W,hW⟩:∃ W:Txt,W=bN (((au ver.toNat++au segs.length)++aN segs++au size.toNat)++F4):=⟨_,rfl⟩;rw[<- hW] at hp ⊢;have l12:(au ver.toNat).length+(au segs.length).length<=9223372036854775807:=by omega
  (simp(disch:=first|decide|omega|(intros;exact aj rfl rfl)|simp only[aa]) only[L7,hr,q1,q2,l12,go_sem,seval,ai])
  refine aE (m:=0) (σ:=Nat) (fun i=>segs.length-i) (fun i=>i<=segs.length) (fun i=>[V.one (.p 0 0),vs ((au ver.toNat++au segs.length)++aN (segs.take i)),vl (segs.map eI),vi segs.length,vi i])
   (fun _=>[.cells [zI ver,.d (.l (segs.map eI)),zI size,zW sum]]) (fun _=>(V.tup [(false,[zS W]),(false,[zI 0])],[])) ?_ 0 (zP _) _ _ ?_
  rotate_left
  ·have e:(au ver.toNat++au segs.length)++aN (segs.take 0)=au ver.toNat++au segs.length:=by simp[aN]
   rw[e];exact bv
  intro i hi R hR;have hln:=lw (segs.take i) (fun n hn=>by have:=hmem n (zZ hn);omega)
  have hti:(segs.take i).length=i:=by simp;omega
  rw[hti] at hln;by_cases c5:i<segs.length
  ·have g1:(segs.map eI)[i]?=some (eI segs[i]):=by simp[c5]
   have hmi:=hmem _ (zN c5);have q4:=HG (n:=segs[i]) (by omega) (by omega)
   have l4:=(tX (n:=segs[i].toNat) (by omega)).2
   have hR':=hR (i+1) (by omega) (by omega)
   have e1:aN (segs.take (i+1))=aN (segs.take i)++au segs[i].toNat:=by
    rw[zO c5,gQ];simp[aN]
   rw[e1,<- List.append_assoc] at hR';obtain⟨P,hP⟩:∃ P:Txt,P=(au ver.toNat++au segs.length)++aN (segs.take i):=⟨_,rfl⟩;have hPl:P.length+(au segs[i].toNat).length<=9223372036854775807:=by rw[hP,zA,zA];omega
   rw[<- hP] at hR' ⊢;(simp(disch:=first|decide|omega|(intros;exact aj rfl rfl)|simp only[aa]) only[CU,g1,cE,dX,q4,hPl,go_sem,seval,ai])
   exact hR' _ _ bv
  ·have hin:i=segs.length:=by omega
   subst hin;rw[List.take_length] at hln ⊢;obtain⟨P,hP⟩:∃ P:Txt,P=(au ver.toNat++au segs.length)++aN segs:=⟨_,rfl⟩;have hPl:P.length+(au size.toNat).length<=9223372036854775807:=by rw[hP,zA,zA];omega
   have hPl2:(P++au size.toNat).length+F4.length<=9223372036854775807:=by rw[hP,zA,zA,zA];omega
   rw[<- hP] at hp ⊢;obtain⟨P2,hP2⟩:∃ P2:Txt,P2=P++au size.toNat:=⟨_,rfl⟩;rw[<- hP2] at hp hPl2;(simp(disch:=first|decide|omega|(intros;exact aj rfl rfl)|simp only[aa]) only[CU,q3,hPl,<- hP2,hPl2,hf,hp,go_sem,seval,ai])
   try simp[trim]
theorem oH {l:List Fil} (hs:srt l) {n:Txt} (h:bA l n=false):∀ f∈l,f.name≠n:=by
 intro f hf he;obtain⟨i,hi,rfl⟩:=zJ hf;have h1:¬ i<aw l n:=by
  rw[<- gC hs n i hi,he,kB];decide
 have h2:i=aw l n:=by
  rcases Nat.lt_or_ge (aw l n) i with h3|h3
  ·have hp:aw l n<l.length:=by omega
   have h4:=(List.pairwise_iff_getElem.1 hs) (aw l n) i hp hi h3;rw[he] at h4;have:=(gC hs n _ hp).1 h4;omega
  ·omega
 unfold bA at h;rw[<- h2,zE hi] at h;simp[he] at h
theorem vQ {l:List Fil} (hs:srt l) {f:Fil} (hf:f∈l):bA l f.name=true:=by
 cases h:bA l f.name with
 | true=>rfl
 | false=>exact absurd rfl (oH hs h f hf)
theorem Fa {l:List Fil} (hs:srt l) (i:Nat) (hi:i<l.length):aw l l[i].name=i:=by
 have h:=vQ hs (zN hi);obtain⟨hp,he⟩:=bM h;rcases Nat.lt_trichotomy (aw l l[i].name) i with h1|h1|h1
 ·have:=(List.pairwise_iff_getElem.1 hs) _ _ hp hi h1;rw[he,kB] at this;cases this
 ·exact h1
 ·have:=(List.pairwise_iff_getElem.1 hs) _ _ hi hp h1;rw[he,kB] at this;cases this
theorem gO {l l':List Fil} (h:l'.map Fil.name=l.map Fil.name) (hs:srt l):srt l':=by
 have h1:(l.map Fil.name).Pairwise fun a b=>bl a b=true:=List.pairwise_map.2 hs
 rw[<- h] at h1;exact List.pairwise_map.1 h1
theorem ol (l:List Fil) (k:Nat) (g:Fil->Fil) (hg:∀ f,(g f).name=f.name):(rZ l k g).map Fil.name=l.map Fil.name:=by
 unfold rZ;split
 ·rename_i f hf;obtain⟨h,rfl⟩:=List.getElem?_eq_some_iff.1 hf;rw[List.map_set,hg];have e:(l[k]).name=(l.map Fil.name)[k]'(by simpa using h):=by simp
  rw[e,List.set_getElem_self]
 ·rfl
theorem AI {l:List Fil} (hs:srt l) (f:Fil) (h:bA l f.name=false):srt (gt l (aw l f.name) f):=by
 have hf:=oH hs h;have h1:∀ x∈l.take (aw l f.name),bl x.name f.name=true:=by
  intro x hx;obtain⟨i,hi,rfl⟩:=zJ hx;rw[zQ] at hi;rw[List.getElem_take];exact(gC hs f.name i (by omega)).2 (by omega)
 have h2:∀ x∈l.drop (aw l f.name),bl f.name x.name=true:=by
  intro x hx;obtain⟨i,hi,rfl⟩:=zJ hx;rw[zH] at hi;rw[List.getElem_drop];have h3:¬ bl l[aw l f.name+i].name f.name=true:=fun h=>by
   have:=(gC hs f.name _ (by omega)).1 h;omega
  rcases uq l[aw l f.name+i].name f.name with h4|h4|h4
  ·exact absurd h4 h3
  ·exact absurd h4 (hf _ (zN _))
  ·exact h4
 have hsp:srt (l.take (aw l f.name)++l.drop (aw l f.name)):=by rw[zY];exact hs
 unfold srt at hsp;rw[List.pairwise_append] at hsp;unfold gt srt;rw[List.pairwise_append];refine⟨hsp.1,List.pairwise_cons.2 ⟨h2,hsp.2.1⟩,fun a ha b hb=>?_⟩
 rcases List.mem_cons.1 hb with rfl|hb
 ·exact h1 a ha
 ·exact hsp.2.2 a ha b hb
theorem Gt {l:List Fil} (hs:srt l) (f:Fil) (h:bA l f.name=true):srt (l.set (aw l f.name) f):=by
 obtain⟨hp,he⟩:=bM h;refine gO ?_ hs;rw[List.map_set];generalize aw l f.name=p at hp he;rw[<- he];have e:l[p].name=(l.map Fil.name)[p]'(by simpa using hp):=by simp
 rw[e,List.set_getElem_self]
theorem Fz {l:List Fil} (hs:srt l) (f:Fil):srt (jD l f):=by
 unfold jD;cases h:bA l f.name with
 | true=>rw[if_pos rfl];exact Gt hs f h
 | false=>rw[if_neg (by simp)];exact AI hs f h
structure okN (k u:Nat) (d:Dsk):Prop where
 len:d.files.length<=k
 srt:srt d.files
 left:0<=d.left∧d.left<9223372036854775808
 cap:0<=d.cap∧d.cap<9223372036854775808
 used:usedF d.files<=u
theorem okN.ok {k u:Nat} {d:Dsk} (h:okN k u d) (hk:k<=1000000) (hu:u<=1000000000000):d.ok :=
 ⟨Nat.le_trans h.len hk,h.srt,h.left,h.cap,Nat.le_trans h.used hu⟩
theorem okN.up {k u k' u':Nat} {d:Dsk} (h:okN k u d) (hk:k<=k') (hu:u<=u'):okN k' u' d :=
 ⟨Nat.le_trans h.len hk,h.srt,h.left,h.cap,Nat.le_trans h.used hu⟩
theorem oC {k u:Nat} {d:Dsk} (h:okN k u d) {r:List Fil × Int} (hr:r.2=0->r.1.length<=k∧Go.Proofs.YtghfhomfppbooaaGreat.srt r.1∧usedF r.1<=u):okN k u (aA d r).1:=by
 obtain⟨a1,a2,a3,a4,a5⟩:=h;unfold aA;split
 ·exact⟨a1,a2,a3,a4,a5⟩
 ·split
  ·exact⟨a1,a2,a3,a4,a5⟩
  ·rename_i h2;obtain⟨b1,b2,b3⟩:=hr (by simpa using h2)
   split
   ·split
    ·exact⟨a1,a2,a3,a4,a5⟩
    ·rename_i h4;exact⟨b1,b2,by simp only[];omega,a4,b3⟩
   ·exact⟨b1,b2,a3,a4,b3⟩
def rT (s:Dsk × Int) (f:Dsk->Dsk × Int):Dsk × Int:=if s.2=0 then f s.1 else s
def bS (n:Txt) (s:Dsk × Int):Dsk × Int:=rT s fun d=>aA d (cN d.files n)
def cQ (n:Txt) (s:Dsk × Int):Dsk × Int:=rT s fun d=>aA d (b7 d.files n)
def gK (n:Txt) (s:Dsk × Int):Dsk × Int:=rT s fun d=>aA d (di d.files n)
def lT (n x:Txt) (s:Dsk × Int):Dsk × Int:=rT s fun d=>aA d (dg d.files d.cap n x)
def uw (n t:Txt) (s:Dsk × Int):Dsk × Int:=rT s fun d=>aA d (jF d.files n t)
def eD (n:Txt) (s:Dsk × Int):Dsk × Int:=if s.2≠9 then s else if(cQ n (s.1,0)).2=0 then((cQ n (s.1,0)).1,9) else cQ n (s.1,0)
theorem vC (l:List Fil) (k:Nat) (f:Fil):usedF (gt l k f)=usedF l+f.data.length:=by
 have e:gt l k f=l.take k++([f]++l.drop k):=rfl;rw[e,bV,bV,fj];have:usedF l=usedF (l.take k)+usedF (l.drop k):=by rw[<- bV,zY]
 omega
theorem kX (l:List Fil) (k:Nat) (h:k<l.length) (f:Fil):usedF (l.set k f)+l[k].data.length=usedF l+f.data.length:=by
 have e:l.set k f=l.take k++([f]++l.drop (k+1)):=by rw[List.set_eq_take_append_cons_drop,if_pos h];rfl
 have e2:l=l.take k++([l[k]]++l.drop (k+1)):=by rw[List.singleton_append,<- zD h,zY]
 have:usedF l=usedF (l.take k)+(l[k].data.length+usedF (l.drop (k+1))):=by rw[<- fj l[k],<- bV,<- bV,<- e2]
 rw[e,bV,bV,fj];omega
theorem rL (l:List Fil) (k:Nat) (h:k<l.length):usedF (cR l k)+l[k].data.length=usedF l:=by
 have e2:l=l.take k++([l[k]]++l.drop (k+1)):=by rw[List.singleton_append,<- zD h,zY]
 have:usedF l=usedF (l.take k)+(l[k].data.length+usedF (l.drop (k+1))):=by rw[<- fj l[k],<- bV,<- bV,<- e2]
 unfold cR;rw[bV];omega
theorem qJ {k u:Nat} {s:Dsk × Int} {f:Dsk->Dsk × Int} (h:okN k u s.1) (hf:okN k u (f s.1).1):okN k u (rT s f).1:=by
 unfold rT;split
 ·exact hf
 ·exact h
theorem fH {k u:Nat} {s:Dsk × Int} (h:okN k u s.1) (n:Txt):okN (k+1) u (bS n s).1:=by
 refine qJ (h.up (by omega) (Nat.le_refl _)) (oC (h.up (by omega) (Nat.le_refl _)) fun h0=>?_)
 unfold cN at h0 ⊢;split at h0
 ·rename_i h1;split at h0
  ·cases h0
  ·rename_i h2;rw[if_pos h1,if_neg h2];refine⟨by rw[uG _ _ _ (mq _ _)];have:=h.len;omega,AI h.srt ⟨n,[],0⟩ (by simpa using h2),?_⟩
   rw[vC];exact h.used
 ·cases h0
theorem dM {k u:Nat} {s:Dsk × Int} (h:okN k u s.1) (n:Txt):okN k u (cQ n s).1:=by
 refine qJ h (oC h fun h0=>?_)
 unfold b7 at h0 ⊢;split at h0
 ·rename_i h1;rw[if_pos h1];obtain⟨hp,_⟩:=bM h1;refine⟨by rw[mU _ _ hp];have:=h.len;omega,mX h.srt _,?_⟩
  have h3:=rL _ _ hp;have h4:=h.used;show usedF (cR s.1.files (aw s.1.files n))<=u;omega
 ·cases h0
theorem ky {k u:Nat} {s:Dsk × Int} (h:okN k u s.1) (n:Txt):okN k u (gK n s).1:=by
 refine qJ h (oC h fun h0=>?_)
 unfold di at h0 ⊢;split at h0
 ·rename_i h1;rw[if_pos h1];obtain⟨hp,_⟩:=bM h1;refine⟨by rw[va];exact h.len,gO (ol _ _ _ fun _=>rfl) h.srt,?_⟩
  rw[iz hp];have h3:=kX _ _ hp { s.1.files[aw s.1.files n] with sure:=s.1.files[aw s.1.files n].data.length }
  have h4:=h.used;simp only[] at h3 ⊢;omega
 ·cases h0
theorem kR {k u:Nat} {s:Dsk × Int} (h:okN k u s.1) (n x:Txt):okN k (u+x.length) (lT n x s).1:=by
 refine qJ (h.up (Nat.le_refl _) (by omega)) (oC (h.up (Nat.le_refl _) (by omega)) fun h0=>?_)
 unfold dg at h0 ⊢;split at h0
 ·rename_i h1;split at h0
  ·cases h0
  ·rename_i h2;rw[if_pos h1,if_neg h2];obtain⟨hp,_⟩:=bM h1;refine⟨by rw[va];exact h.len,gO (ol _ _ _ fun _=>rfl) h.srt,?_⟩
   rw[iz hp];have h3:=kX _ _ hp { s.1.files[aw s.1.files n] with data:=s.1.files[aw s.1.files n].data++x }
   have h4:=h.used;simp only[zA] at h3 ⊢;omega
 ·cases h0
theorem Im {k u:Nat} {s:Dsk × Int} (h:okN k u s.1) (n t:Txt):okN k u (uw n t s).1:=by
 refine qJ h (oC h fun h0=>?_)
 unfold jF at h0 ⊢;split at h0
 ·rename_i h1;split at h0
  ·rename_i h2;rw[if_pos h1,if_pos h2];obtain⟨hp,_⟩:=bM h1;have hd:(dK s.1.files (aw s.1.files n) t).data=s.1.files[aw s.1.files n].data:=by unfold dK;rw[zE hp]
   have hu:=rL _ _ hp;have hul:=h.used;have hln:=h.len;have hdl:=mU _ _ hp;refine⟨Nat.le_trans (AX _ _) (by rw[hdl];omega),Fz (mX h.srt _) _,?_⟩
   show usedF (jD (cR s.1.files (aw s.1.files n)) (dK s.1.files (aw s.1.files n) t))<=u;unfold jD;split
   ·rename_i h3;obtain⟨hp3,_⟩:=bM h3;have h5:=kX _ _ hp3 (dK s.1.files (aw s.1.files n) t);rw[hd] at h5;omega
   ·rw[vC,hd];omega
  ·cases h0
 ·cases h0
theorem lm {k u:Nat} {s:Dsk × Int} (h:okN k u s.1) (n:Txt):okN k u (eD n s).1:=by
 unfold eD;split
 ·exact h
 ·split
  ·exact dM (s:=(s.1,0)) h n
  ·exact dM (s:=(s.1,0)) h n
def dY (s:Dsk × Int):Box:=.cells (s.1.l++[zI s.2])
theorem Lu (s:Dsk × Int) (g:Nat) (x:Txt) (f:Dsk->Dsk × Int) (hg:s.2=0->call g [.agg s.1.l,.one (.p 0 0)] [.cells [zS x]]=some (aR (f s.1),[.cells [zS x]])) :
  call 89 [.one (.p 0 0),.one (.f g [1])] [dY s,.cells [zS x]]=some (.tup [],[dY (rT s f),.cells [zS x]]):=by
 apply ah Ns rfl;obtain⟨d,e⟩:=s;unfold rT;simp only at hg ⊢;by_cases h:e=0
 ·subst h;have h1:∀ D:Box,az call g [.agg d.l,.one (.p 1 0)] [D,.cells [zS x]]=some (aR (f d),[D,.cells [zS x]]):=fun D =>
   aP (ids:=[1]) rfl rfl rfl (hg rfl) rfl
  generalize f d=r at *;obtain⟨⟨f2,cp2,ar2,lf2,dn2⟩,e2⟩:=r;obtain⟨fl,cp,ar,lf,dn⟩:=d;simp only[aR,Dsk.l] at h1;(simp(disch:=first|decide|omega|(intros;exact aj rfl rfl)|simp only[aa]) only[aH,KY,dY,Dsk.l,↓h1,go_sem,seval,ai])
  simp[zR]
 ·obtain⟨fl,cp,ar,lf,dn⟩:=d;(simp(disch:=first|decide|omega|(intros;exact aj rfl rfl)|simp only[aa]) only[aH,KY,dY,Dsk.l,h,go_sem,seval,ai])
  simp[zR,h]
theorem Pa (s:Dsk × Int) (g:Nat) (f:Dsk->Dsk × Int) (hg:s.2=0->call g [.agg s.1.l] []=some (aR (f s.1),[])) :
  call 89 [.one (.p 0 0),.one (.f g [])] [dY s]=some (.tup [],[dY (rT s f)]):=by
 apply ah Ns rfl;obtain⟨d,e⟩:=s;unfold rT;simp only at hg ⊢;by_cases h:e=0
 ·subst h;have h1:∀ H:Hp,az call g [.agg d.l] H=some (aR (f d),H):=fun H=>callIso_pure rfl (hg rfl) rfl
  generalize f d=r at *;obtain⟨⟨f2,cp2,ar2,lf2,dn2⟩,e2⟩:=r;obtain⟨fl,cp,ar,lf,dn⟩:=d;simp only[aR,Dsk.l] at h1;(simp(disch:=first|decide|omega|(intros;exact aj rfl rfl)|simp only[aa]) only[aH,KY,dY,Dsk.l,↓h1,go_sem,seval,ai])
  simp[zR]
 ·obtain⟨fl,cp,ar,lf,dn⟩:=d;(simp(disch:=first|decide|omega|(intros;exact aj rfl rfl)|simp only[aa]) only[aH,KY,dY,Dsk.l,h,go_sem,seval,ai])
  simp[zR,h]
theorem Fu (d:Dsk) (hd:d.ok) (n:Txt):call 90 [.agg d.l,.one (.p 0 0)] [.cells [zS n]]=some (aR (aA d (cN d.files n)),[.cells [zS n]]):=by
 apply ah Oh rfl;have h:=w6 d hd n;generalize aA d (cN d.files n)=r at *;obtain⟨⟨f2,cp2,ar2,lf2,dn2⟩,e2⟩:=r;obtain⟨fl,cp,ar,lf,dn⟩:=d;simp only[aR,Dsk.l] at h ⊢;(simp(disch:=first|decide|omega|(intros;exact aj rfl rfl)|simp only[aa]) only[aH,Nn,h,go_sem,seval,ai])
 simp[zR]
theorem Gr (d:Dsk) (hd:d.ok) (n:Txt):call 127 [.agg d.l,.one (.p 0 0)] [.cells [zS n]]=some (aR (aA d (b7 d.files n)),[.cells [zS n]]):=by
 apply ah Ml rfl;have h:=kV d hd n;generalize aA d (b7 d.files n)=r at *;obtain⟨⟨f2,cp2,ar2,lf2,dn2⟩,e2⟩:=r;obtain⟨fl,cp,ar,lf,dn⟩:=d;simp only[aR,Dsk.l] at h ⊢;(simp(disch:=first|decide|omega|(intros;exact aj rfl rfl)|simp only[aa]) only[aH,KF,h,go_sem,seval,ai])
 simp[zR]
theorem J5 (d:Dsk) (hd:d.ok) (n:Txt):call 130 [.agg d.l,.one (.p 0 0)] [.cells [zS n]]=some (aR (aA d (di d.files n)),[.cells [zS n]]):=by
 apply ah Mi rfl;have h:=oq d hd n;generalize aA d (di d.files n)=r at *;obtain⟨⟨f2,cp2,ar2,lf2,dn2⟩,e2⟩:=r;obtain⟨fl,cp,ar,lf,dn⟩:=d;simp only[aR,Dsk.l] at h ⊢;(simp(disch:=first|decide|omega|(intros;exact aj rfl rfl)|simp only[aa]) only[aH,J7,h,go_sem,seval,ai])
 simp[zR]
theorem IG (d:Dsk) (hd:d.ok) (x:Txt) (hx:x.length<=1000000000000):call 95 [.agg d.l,.one (.p 0 0)] [.cells [zS x]]=some (aR (aA d (dg d.files d.cap [110] x)),[.cells [zS x]]):=by
 apply ah NZ rfl;have h:=wT d hd [110] x hx;generalize aA d (dg d.files d.cap [110] x)=r at *;obtain⟨⟨f2,cp2,ar2,lf2,dn2⟩,e2⟩:=r;obtain⟨fl,cp,ar,lf,dn⟩:=d;simp only[aR,Dsk.l] at h ⊢;(simp(disch:=first|decide|omega|(intros;exact aj rfl rfl)|simp only[aa]) only[aH,ND,h,go_sem,seval,ai])
 simp[zR]
theorem JC (d:Dsk) (hd:d.ok):call 99 [.agg d.l] []=some (aR (aA d (jF d.files [110] [109])),[]):=by
 apply ah Ol rfl;have h:=wM d hd [110] [109];generalize aA d (jF d.files [110] [109])=r at *;obtain⟨⟨f2,cp2,ar2,lf2,dn2⟩,e2⟩:=r;obtain⟨fl,cp,ar,lf,dn⟩:=d;simp only[aR,Dsk.l] at h ⊢;(simp(disch:=first|decide|omega|(intros;exact aj rfl rfl)|simp only[aa]) only[aH,NK,h,go_sem,seval,ai])
 try simp[zR]
theorem nJ (s:Dsk × Int) (hd:s.1.ok) (n:Txt):call 51 [.one (.p 0 0),vs n] [dY s]=some (.tup [],[dY (bS n s)]):=by
 apply ah OQ rfl;have h:az call 89 [.one (.p 0 0),.one (.f 90 [1])] [dY s,.cells [zS n]]=some (.tup [],[dY (bS n s),.cells [zS n]]) :=
  aP (ids:=[0,1]) rfl rfl rfl (Lu s _ n _ fun _=>Fu s.1 hd n) rfl
 (simp(disch:=first|decide|omega|(intros;exact aj rfl rfl)|simp only[aa]) only[aH,NO,↓h,go_sem,seval,ai])
 simp[zR,dY,Dsk.l]
theorem ng (s:Dsk × Int) (hd:s.1.ok) (n:Txt):call 94 [.one (.p 0 0),vs n] [dY s]=some (.tup [],[dY (cQ n s)]):=by
 apply ah Pd rfl;have h:az call 89 [.one (.p 0 0),.one (.f 127 [1])] [dY s,.cells [zS n]]=some (.tup [],[dY (cQ n s),.cells [zS n]]) :=
  aP (ids:=[0,1]) rfl rfl rfl (Lu s _ n _ fun _=>Gr s.1 hd n) rfl
 (simp(disch:=first|decide|omega|(intros;exact aj rfl rfl)|simp only[aa]) only[aH,Np,↓h,go_sem,seval,ai])
 simp[zR,dY,Dsk.l]
theorem zb (s:Dsk × Int) (hd:s.1.ok) (n:Txt):call 98 [.one (.p 0 0),vs n] [dY s]=some (.tup [],[dY (gK n s)]):=by
 apply ah Oi rfl;have h:az call 89 [.one (.p 0 0),.one (.f 130 [1])] [dY s,.cells [zS n]]=some (.tup [],[dY (gK n s),.cells [zS n]]) :=
  aP (ids:=[0,1]) rfl rfl rfl (Lu s _ n _ fun _=>J5 s.1 hd n) rfl
 (simp(disch:=first|decide|omega|(intros;exact aj rfl rfl)|simp only[aa]) only[aH,NS,↓h,go_sem,seval,ai])
 simp[zR,dY,Dsk.l]
theorem tU (s:Dsk × Int) (hd:s.1.ok) (n:Txt):call 97 [.one (.p 0 0),vs n] [dY s]=some (.tup [],[dY (eD n s)]):=by
 apply ah OG rfl;obtain⟨d,e⟩:=s;unfold eD;simp only at hd ⊢;by_cases h9:e=9
 ·subst h9;have h:az call 94 [.one (.p 0 0),vs n] [dY (d,0)]=some (.tup [],[dY (cQ n (d,0))]) :=
   aP (ids:=[0]) rfl rfl rfl (ng (d,0) hd n) rfl
  generalize cQ n (d,0)=r at *;obtain⟨⟨f2,cp2,ar2,lf2,dn2⟩,e2⟩:=r;obtain⟨fl,cp,ar,lf,dn⟩:=d;simp only[dY,Dsk.l,List.cons_append,List.nil_append] at h;by_cases h0:e2=0
  ·subst h0;(simp(disch:=first|decide|omega|(intros;exact aj rfl rfl)|simp only[aa]) only[aH,LI,dY,Dsk.l,↓h,go_sem,seval,ai])
   simp[zR]
  ·(simp(disch:=first|decide|omega|(intros;exact aj rfl rfl)|simp only[aa]) only[aH,LI,dY,Dsk.l,↓h,h0,go_sem,seval,ai])
   simp[zR,h0]
 ·obtain⟨fl,cp,ar,lf,dn⟩:=d;(simp(disch:=first|decide|omega|(intros;exact aj rfl rfl)|simp only[aa]) only[aH,LI,dY,Dsk.l,h9,go_sem,seval,ai])
  simp[zR,h9]
def bX (m:Man) (s:Dsk × Int):Dsk × Int :=
 let s1:=if s.2=0 then(s.1,(aX m).2) else s
 let s2:=if(aB s1.1.files [110]).2=0 then cQ [110] s1 else s1
 let s3:=bS [110] s2
 if s3.2≠0 then s3 else uw [110] [109] (gK [110] (eD [110] (lT [110] (aX m).1 s3)))
theorem mj (m:Man):(aX m).1.length<=800:=by
 unfold aX;split
 ·rename_i h;have:=ja h;unfold bu;have h9:=gv (n:=(aU m).length) (by omega)
  show(bN (aU m)).length<=800;rw[mh];omega
 ·simp
theorem jm {k u:Nat} {s:Dsk × Int} (h:okN k u s.1) (m:Man):okN (k+1) (u+800) (bX m s).1:=by
 unfold bX;have h1:okN k u (if s.2=0 then(s.1,(aX m).2) else s).1:=by split <;> exact h
 generalize (if s.2=0 then(s.1,(aX m).2) else s)=s1 at *
 have h2:okN k u (if(aB s1.1.files [110]).2=0 then cQ [110] s1 else s1).1:=by
  split
  ·exact dM h1 _
  ·exact h1
 simp only[];generalize (if(aB s1.1.files [110]).2=0 then cQ [110] s1 else s1)=s2 at *
 have h3:=fH h2 [110];split
 ·exact h3.up (Nat.le_refl _) (by omega)
 ·exact Im (ky (lm ((kR h3 [110] (aX m).1).up (Nat.le_refl _) (by have:=mj m;omega)) _) _) _ _
theorem BF (d:Dsk) (e:Int) (te:Int) (tx:Txt) {k u:Nat} (hd:okN k u d) (hk:k<=900000) (hu:u<=900000000000) (htx:tx.length<=800) (ver size sum:Int) (segs:List Int)
  (hp:call 93 [.agg [zI ver,.d (.l (segs.map eI)),zI size,zW sum]] []=some (.tup [(false,[zS tx]),(false,[zI te])],[]))
  (s1:Dsk × Int) (hs1:s1=(if e=0 then(d,te) else(d,e))) (s2:Dsk × Int) (hs2:s2=(if(aB s1.1.files [110]).2=0 then cQ [110] s1 else s1)) :
  call 53 [.one (.p 0 0),.agg [zI ver,.d (.l (segs.map eI)),zI size,zW sum]] [dY (d,e)] =
   some (.tup [],[dY (if(bS [110] s2).2≠0 then bS [110] s2 else uw [110] [109] (gK [110] (eD [110] (lT [110] tx (bS [110] s2)))))]):=by
 have k1:okN k u s1.1:=by rw[hs1];split <;> exact hd
 have k2:okN k u s2.1:=by
  rw[hs2];split
  ·exact dM k1 _
  ·exact k1
 have k3:=fH k2 [110];obtain⟨s3,hs3⟩:∃ s3,s3=bS [110] s2:=⟨_,rfl⟩;have k4:=kR k3 [110] tx;rw[<- hs3] at k3 k4 ⊢;obtain⟨s4,hs4⟩:∃ s4,s4=lT [110] tx s3:=⟨_,rfl⟩;rw[<- hs4] at k4 ⊢;have k5:=lm k4 [110];obtain⟨s5,hs5⟩:∃ s5,s5=eD [110] s4:=⟨_,rfl⟩;rw[<- hs5] at k5 ⊢;have k6:=ky k5 [110];obtain⟨s6,hs6⟩:∃ s6,s6=gK [110] s5:=⟨_,rfl⟩;rw[<- hs6] at k6 ⊢;obtain⟨s7,hs7⟩:∃ s7,s7=uw [110] [109] s6:=⟨_,rfl⟩;rw[<- hs7];have hr:=gS s1.1 (Nat.le_trans k1.len (by omega)) k1.srt [110]
 have q1:∀ M T:Box,az call 94 [.one (.p 0 0),vs [110]] [dY s1,M,T]=some (.tup [],[dY (cQ [110] s1),M,T]):=fun M T=>aP (ids:=[0]) rfl rfl rfl (ng s1 (k1.ok (by omega) (by omega)) _) rfl
 have q2:∀ M T:Box,az call 51 [.one (.p 0 0),vs [110]] [dY s2,M,T]=some (.tup [],[dY s3,M,T]):=fun M T=>by rw[hs3];exact aP (ids:=[0]) rfl rfl rfl (nJ s2 (k2.ok (by omega) (by omega)) _) rfl
 have q3:∀ M:Box,az call 89 [.one (.p 0 0),.one (.f 95 [2])] [dY s3,M,.cells [zS tx]]=some (.tup [],[dY s4,M,.cells [zS tx]]):=fun M=>by
  rw[hs4];exact aP (ids:=[0,2]) rfl rfl rfl (Lu s3 _ tx _ fun _=>IG s3.1 (k3.ok (by omega) (by omega)) tx (by omega)) rfl
 have q4:∀ M T:Box,az call 97 [.one (.p 0 0),vs [110]] [dY s4,M,T]=some (.tup [],[dY s5,M,T]):=fun M T=>by rw[hs5];exact aP (ids:=[0]) rfl rfl rfl (tU s4 (k4.ok (by omega) (by omega)) _) rfl
 have q5:∀ M T:Box,az call 98 [.one (.p 0 0),vs [110]] [dY s5,M,T]=some (.tup [],[dY s6,M,T]):=fun M T=>by rw[hs6];exact aP (ids:=[0]) rfl rfl rfl (zb s5 (k5.ok (by omega) (by omega)) _) rfl
 have q6:∀ M T:Box,az call 89 [.one (.p 0 0),.one (.f 99 [])] [dY s6,M,T]=some (.tup [],[dY s7,M,T]):=fun M T=>by
  rw[hs7];exact aP (ids:=[0]) rfl rfl rfl (Pa s6 _ _ fun _=>JC s6.1 (k6.ok (by omega) (by omega))) rfl
 clear hs3 hs4 hs5 hs6 hs7 k2 k3 k4 k5 k6;obtain⟨d3,e3⟩:=s3;apply ah N3 rfl;by_cases he:e=0
 ·rw[if_pos he] at hs1;subst hs1;subst he;by_cases hrd:(aB d.files [110]).2=0
  ·simp only[] at hs2 hr;rw[if_pos hrd] at hs2;rw[<- hs2] at q1;rw[hrd] at hr;simp only[dY,Dsk.l,List.cons_append,List.nil_append] at hr q1 q2 q3 q4 q5 q6;by_cases h3:e3=0
   ·subst h3;(simp(disch:=first|decide|omega|(intros;exact aj rfl rfl)|simp only[aa]) only[aH,GZ,dY,Dsk.l,hp,hr,↓q1,↓q2,↓q3,↓q4,↓q5,↓q6,go_sem,seval,ai])
    try simp[zR,dY,Dsk.l]
   ·(simp(disch:=first|decide|omega|(intros;exact aj rfl rfl)|simp only[aa]) only[aH,GZ,dY,Dsk.l,hp,hr,↓q1,↓q2,↓q3,↓q4,↓q5,↓q6,h3,go_sem,seval,ai])
    try simp[zR,dY,Dsk.l,h3]
  ·simp only[] at hs2 hr;rw[if_neg hrd] at hs2;subst hs2;simp only[dY,Dsk.l,List.cons_append,List.nil_append] at hr q1 q2 q3 q4 q5 q6;by_cases h3:e3=0
   ·subst h3;(simp(disch:=first|decide|omega|(intros;exact aj rfl rfl)|simp only[aa]) only[aH,GZ,dY,Dsk.l,hp,hr,hrd,↓q2,↓q3,↓q4,↓q5,↓q6,go_sem,seval,ai])
    try simp[zR,dY,Dsk.l]
   ·(simp(disch:=first|decide|omega|(intros;exact aj rfl rfl)|simp only[aa]) only[aH,GZ,dY,Dsk.l,hp,hr,hrd,↓q2,↓q3,↓q4,↓q5,↓q6,h3,go_sem,seval,ai])
    try simp[zR,dY,Dsk.l,h3]
 ·rw[if_neg he] at hs1;subst hs1;by_cases hrd:(aB d.files [110]).2=0
  ·simp only[] at hs2 hr;rw[if_pos hrd] at hs2;rw[<- hs2] at q1;rw[hrd] at hr;simp only[dY,Dsk.l,List.cons_append,List.nil_append] at hr q1 q2 q3 q4 q5 q6;by_cases h3:e3=0
   ·subst h3;(simp(disch:=first|decide|omega|(intros;exact aj rfl rfl)|simp only[aa]) only[aH,GZ,dY,Dsk.l,hp,hr,↓q1,↓q2,↓q3,↓q4,↓q5,↓q6,go_sem,seval,ai])
    try simp[zR,dY,Dsk.l]
   ·(simp(disch:=first|decide|omega|(intros;exact aj rfl rfl)|simp only[aa]) only[aH,GZ,dY,Dsk.l,hp,hr,↓q1,↓q2,↓q3,↓q4,↓q5,↓q6,h3,go_sem,seval,ai])
    try simp[zR,dY,Dsk.l,h3]
  ·simp only[] at hs2 hr;rw[if_neg hrd] at hs2;subst hs2;simp only[dY,Dsk.l,List.cons_append,List.nil_append] at hr q1 q2 q3 q4 q5 q6;by_cases h3:e3=0
   ·subst h3;(simp(disch:=first|decide|omega|(intros;exact aj rfl rfl)|simp only[aa]) only[aH,GZ,dY,Dsk.l,hp,hr,hrd,↓q2,↓q3,↓q4,↓q5,↓q6,go_sem,seval,ai])
    try simp[zR,dY,Dsk.l]
   ·(simp(disch:=first|decide|omega|(intros;exact aj rfl rfl)|simp only[aa]) only[aH,GZ,dY,Dsk.l,hp,hr,hrd,↓q2,↓q3,↓q4,↓q5,↓q6,h3,go_sem,seval,ai])
    try simp[zR,dY,Dsk.l,h3]
theorem x9 (s:Dsk × Int) {k u:Nat} (hd:okN k u s.1) (hk:k<=900000) (hu:u<=900000000000) (m:Man) (hm:m.ok):call 53 [.one (.p 0 0),.agg m.l] [dY s]=some (.tup [],[dY (bX m s)]):=by
 have hp:=wC m hm;have hpl:=mj m;obtain⟨d,e⟩:=s;have h:=BF d e (aX m).2 (aX m).1 hd hk hu hpl m.ver m.size m.sum m.segs hp _ rfl _ rfl;exact h
structure Seg where
 base:Int
 n:Int
 size:Int
 deriving DecidableEq
def Seg.enc (e:Seg):List D:=[.i .i64 e.base,.i .i64 e.n,.i .i64 e.size]
theorem Seg.len (e:Seg):e.enc.length=3:=Eq.trans rfl rfl
theorem Seg.at0 (e:Seg):e.enc[0]?=some (.i .i64 e.base):=Eq.trans rfl rfl
def Seg.ok (e:Seg):Prop:=(-9223372036854775808<=e.base∧e.base<9223372036854775808)∧(-9223372036854775808<=e.n∧e.n<9223372036854775808)∧(-9223372036854775808<=e.size∧e.size<9223372036854775808)
def Seg.ty:List Ty:=[.i .i64,.i .i64,.i .i64]
theorem Seg.eqs (a b:Seg):j5 [0,0,0] (a.enc.map L.d) (b.enc.map L.d)=some (decide (a=b)):=by
 cases a;cases b;simp only[Seg.enc,List.map_cons,List.map_nil,j5,sC,if_true,Seg.mk.injEq];congr 1
 rw[Bool.eq_iff_iff];simp only[Bool.and_eq_true,beq_iff_eq,decide_eq_true_eq,and_true]
structure Sto where
 disk:Dsk
 ver:Int
 segs:List Seg
 next:Int
 sure:Int
 size:Int
 sum:Int
def Sto.l (s:Sto):List L:=s.disk.l++[zI s.ver,.d (.l (s.segs.map Seg.enc)),zI s.next,zI s.sure,zI s.size,zW s.sum]
def Sto.man (s:Sto):Man:=⟨s.ver,s.segs.map Seg.base,s.size,s.sum⟩
def bh (r:Sto × Int):V:=.tup [(true,r.1.l),(false,[zI r.2])]
def K1:List Seg->Int->Nat->Seg->Seg
 | l,off,0,z=>l.headD z
 | l,off,k+1,z=>match l[k+1]? with|some g=>if g.base > off then K1 l off k z else g|none=>z
def Sto.hld (s:Sto) (off:Int):Seg:=K1 s.segs off (s.segs.length-1) ⟨0,0,0⟩
structure okS (k u:Nat) (s:Sto):Prop where
 dsk:okN k u s.disk
 len:1<=s.segs.length∧s.segs.length<=64
 seg:∀ g∈s.segs,(0<=g.base∧g.base<=1099511627776)∧(0<=g.n∧g.n<=u)∧(0<=g.size∧g.size<=u)
 next:0<=s.next∧s.next<=1099511627776
 ver:0<=s.ver∧s.ver<=u
 sum:0<=s.sum∧s.sum<4294967296
def Sto.last (s:Sto):Seg:=s.segs.getLastD ⟨0,0,0⟩
theorem qQ {s:Sto} (h:1<=s.segs.length):s.segs.getLast?=some s.last:=by
 unfold Sto.last;rw[List.getLastD_eq_getLast?];cases hc:s.segs.getLast? with
 | some g=>rfl
 | none=>rw[List.getLast?_eq_none_iff] at hc;rw[hc] at h;exact absurd h (by decide)
theorem kP {s:Sto} (h:1<=s.segs.length):s.last∈s.segs:=List.mem_of_getLast? (qQ h)
def fileN (n:Int):Txt:=nz 115 n.toNat
theorem pK {n:Int} (h:0<=n∧n<=1099511627776):call 52 [vi n] []=some (vs (fileN n),[]):=by
 have:=Do n.toNat (by omega)
 have e:((n.toNat:Nat):Int)=n:=by omega
 rw[e] at this;exact this
def dh (s:Sto):Sto × Int :=
 let r:=aA s.disk (di s.disk.files (fileN s.last.base))
 ({ s with disk:=r.1,sure:=if r.2=0 then s.next else s.sure },r.2)
def jl (segs:List Seg) (i:Nat):List (List D):=(segs.take i).map (fun g=>eI g.base)++List.replicate (segs.length-i) (eI 0)
theorem AL (segs:List Seg) (i:Nat) (h:i<=segs.length):(jl segs i).length=segs.length:=by simp[jl];omega
theorem CG (segs:List Seg) (i:Nat) (h:i<segs.length):(jl segs i)[i]?=some (eI 0):=by
 unfold jl;rw[List.getElem?_append_right (by simp;omega),List.getElem?_replicate]
 rw[if_pos];simp;omega
theorem AW (segs:List Seg) (i:Nat) (h:i<segs.length):(jl segs i).set i (eI segs[i].base)=jl segs (i+1):=by
 unfold jl;have e:segs.length-i=(segs.length-(i+1))+1:=by omega
 rw[List.set_append_right _ _ (by simp;omega),e,List.replicate_succ,zO h,List.map_append]
 have e2:i-((segs.take i).map fun g=>eI g.base).length=0:=by simp;omega
 rw[e2];simp
theorem Cx (s:Sto) (hl:s.segs.length<=1000000):call 54 [.agg s.l] []=some (.agg s.man.l,[]):=by
 apply ah O3 rfl;obtain⟨⟨fl,cp,ar,lf,dn⟩,ver,segs,next,sure,size,sum⟩:=s;simp only at hl;unfold Sto.man;(simp(disch:=first|decide|omega|(intros;exact aj rfl rfl)|simp only[aa]) only[NJ,Sto.l,Dsk.l,Man.l,go_sem,seval,ai,bg,A.kind,A.xs,aG,A.isN])
 refine aE (m:=0) (σ:=Nat) (fun i=>segs.length-i) (fun i=>i<=segs.length) (fun i=>[V.one (.p 0 0),V.one (.p 1 0),vl (segs.map Seg.enc),vi segs.length,vi i])
  (fun i=>[.cells [zI 0,.ns,zI 0,zW 0],.cells [zI ver,.sl 2 1 0 segs.length,zI size,zW sum],.arr 1 (jl segs i) 0]) (fun _=>(V.agg [zI ver,.d (.l ((segs.map Seg.base).map eI)),zI size,zW sum],[])) ?_ 0 (zP _) _ _ ?_
 rotate_left
 ·have e:jl segs 0=List.replicate segs.length [D.i .i64 0]:=by simp[jl,eI]
  rw[e];exact bv
 intro i hi R hR;have hln:=AL segs i hi;by_cases c:i<segs.length
 ·have g1:(segs.map Seg.enc)[i]?=some segs[i].enc:=by simp[c]
  have g2:=CG segs i c;have g3:=AW segs i c;have hR':=hR (i+1) (by omega) (by omega)
  rw[<- g3] at hR';generalize jl segs i=Q at *;generalize segs[i]=g at *;obtain⟨b,n,z⟩:=g;simp only[eI] at g2 hR';(simp(disch:=first|decide|omega|(intros;exact aj rfl rfl)|simp only[aa]) only[C9,c,g1,g2,Seg.enc,hln,go_sem,seval,ai])
  exact hR' _ _ bv
 ·have e:i=segs.length:=by omega
  subst e;have e2:jl segs segs.length=segs.map fun g=>eI g.base:=by simp[jl]
  rw[e2] at hln ⊢;have e3:(segs.map Seg.base).map eI=segs.map fun g=>eI g.base:=by simp
  rw[e3];generalize (segs.map fun g=>eI g.base)=Q at *
  have e4:Q.take segs.length=Q:=zL (by omega)
  (simp(disch:=first|decide|omega|(intros;exact aj rfl rfl)|simp only[aa]) only[C9,e4,hln,go_sem,seval,ai])
  try simp[zR]
def bD (d:Dsk):Sto × Int :=
 let s1:=bS (fileN 0) (d,0)
 let s2:=if s1.2=0 then bX ⟨1,[0],0,0⟩ s1 else s1
 if s2.2=0 then(⟨s2.1,1,[⟨0,0,0⟩],0,0,0,0⟩,0) else(⟨s2.1,0,[],0,0,0,0⟩,s2.2)
theorem CN {k u:Nat} (d:Dsk) (hd:okN k u d) (hk:k<=800000) (hu:u<=800000000000):call 24 [.agg d.l] []=some (bh (bD d),[]):=by
 apply ah Oe rfl;unfold bD;simp only[];have q1:=pK (n:=0) ⟨by decide,by decide⟩
 have k1:=fH (s:=(d,0)) hd (fileN 0);have q2:=nJ (d,0) (hd.ok (by omega) (by omega)) (fileN 0)
 have q3:=Cx ⟨⟨[],0,false,0,false⟩,1,[⟨0,0,0⟩],0,0,0,0⟩ (by simp)
 have q4:=fun s1 (h:okN (k+1) u s1.1)=>x9 s1 h (by omega) (by omega) ⟨1,[0],0,0⟩ ⟨by simp,by simp⟩
 have q4:=q4 _ k1;generalize bS (fileN 0) (d,0)=s1 at *;generalize bX ⟨1,[0],0,0⟩ s1=s3 at *;obtain⟨fl,cp,ar,lf,dn⟩:=d;obtain⟨⟨fl1,cp1,ar1,lf1,dn1⟩,e1⟩:=s1;obtain⟨⟨fl3,cp3,ar3,lf3,dn3⟩,e3⟩:=s3;simp only[dY,Dsk.l,Sto.l,Seg.enc,Sto.man,Man.l,List.cons_append,List.nil_append,List.map_cons,List.map_nil,eI] at q1 q2 q3 q4 ⊢;have r2:∀ P Q R T:Box,az call 51 [.one (.p 4 0),vs (fileN 0)] [P,Q,R,T,.cells [.d (.l (fl.map Fil.enc)),zI cp,zB ar,zI lf,zB dn,zI 0]]=some (.tup [],[P,Q,R,T,.cells [.d (.l (fl1.map Fil.enc)),zI cp1,zB ar1,zI lf1,zB dn1,zI e1]]):=fun P Q R T =>
  aP (ids:=[4]) rfl rfl rfl q2 rfl
 have r4:∀ P Q R T:Box,az call 53 [.one (.p 4 0),.agg [zI 1,.d (.l [[.i .i64 0]]),zI 0,zW 0]] [P,Q,R,T,.cells [.d (.l (fl1.map Fil.enc)),zI cp1,zB ar1,zI lf1,zB dn1,zI e1]]=some (.tup [],[P,Q,R,T,.cells [.d (.l (fl3.map Fil.enc)),zI cp3,zB ar3,zI lf3,zB dn3,zI e3]]):=fun P Q R T =>
  aP (ids:=[4]) rfl rfl rfl q4 rfl
 by_cases c:e1=0
 ·subst c;by_cases c3:e3=0
  ·subst c3;(simp(disch:=first|decide|omega|(intros;exact aj rfl rfl)|simp only[aa]) only[aH,a24,q1,↓r2,q3,↓r4,go_sem,seval,ai,bg,A.kind,A.xs,aG,A.isN])
   try simp[trim,bh,Sto.l,Dsk.l,Seg.enc]
  ·(simp(disch:=first|decide|omega|(intros;exact aj rfl rfl)|simp only[aa]) only[aH,a24,q1,↓r2,q3,↓r4,c3,go_sem,seval,ai,bg,A.kind,A.xs,aG,A.isN])
   try simp[trim,bh,Sto.l,Dsk.l,Seg.enc,c3]
 ·(simp(disch:=first|decide|omega|(intros;exact aj rfl rfl)|simp only[aa]) only[aH,a24,q1,↓r2,c,go_sem,seval,ai,bg,A.kind,A.xs,aG,A.isN])
  try simp[trim,bh,Sto.l,Dsk.l,Seg.enc,c]
def kf (s:Sto):Sto:={ s with ver:=s.ver+1,segs:=s.segs++[⟨s.next,0,0⟩] }
def kD (s:Sto):Dsk × Int :=
 let c:=bS (fileN s.next) (s.disk,0)
 if c.2=0 then eD (fileN s.next) (bX (kf s).man c) else c
def dp (s:Sto):Sto × Int :=
 if 64<=s.segs.length then(s,9) else
  if(dh s).2≠0 then dh s else
   if(kD (dh s).1).2=0 then({ kf (dh s).1 with disk:=(kD (dh s).1).1 },0)
   else({ (dh s).1 with disk:=(kD (dh s).1).1 },(kD (dh s).1).2)
theorem qE {k u:Nat} {s:Sto} (h:okS k u s):okS k u (dh s).1:=by
 refine⟨?_,h.len,h.seg,h.next,h.ver,h.sum⟩;have:=ky (s:=(s.disk,0)) h.dsk (fileN s.last.base);exact this
end Go.Proofs.YtghfhomfppbooaaGreat
