import Derived.Test.YtgoifbjgmgbihaaGreatT02
set_option linter.unusedSimpArgs false
set_option linter.unusedVariables false
set_option maxRecDepth 20000
set_option maxHeartbeats 16000000
namespace Go.Proofs.YtgoifbjgmgbihaaGreat
open Go.Vi
def am (d:Dsk) (r:List Fil × Int):Dsk × Int :=
 if d.down=true then(d,10) else if r.2≠0 then(d,r.2) else if d.armed=true then(if d.left=0 then({ d with down:=true },10) else({ d with left:=d.left-1,files:=r.1 },0)) else({ d with files:=r.1 },0)
theorem Cb (d:Dsk) (hl:d.files.length<=1000000) (hs:srt d.files) (hL:0<=d.left∧d.left<9223372036854775808) (n:Txt) (g:Nat)  (fs:List Fil) (e:Int)
  (hdo:∀ D R:Box,∃ B,D=.cells d.l->d.down=false->au call g [.one (.sl 3 3 0 d.files.length),vi (ax d.files n:Nat),vb (bM d.files n)] [D,R,.dead,.arr 3 (d.files.map Fil.enc) 0]=some (.tup [(false,[.d (.l (fs.map Fil.enc))]),(false,[zI e])],[D,R,.dead,B])) :
  call 140 [.agg d.l,vs n,.one (.f g [])] []=some (.tup [(true,(am d (fs,e)).1.l),(false,[.d (.i .i64 (am d (fs,e)).2)])],[]):=by
 apply ah Lw rfl;have hcl:=Lu (d.files.map Fil.enc) (aV Fil.len _) (by simp;omega) (by simp;omega)
 have hf:∀ D R:Box,au call 172 [.one (.sl 3 3 0 d.files.length),vs n] [D,R,.dead,.arr 3 (d.files.map Fil.enc) 0]=some (cO d.files n,[D,R,.dead,.arr 3 (d.files.map Fil.enc) 0]):=fun D R =>
  aE (ids:=[3]) rfl rfl rfl (oD d.files hl hs n) rfl
 unfold cO at hf;obtain⟨fl,cp,ar,lf,dn⟩:=d;simp only at *;unfold am;cases dn with
 | true =>
  (simp(disch:=first|decide|omega|(intros;exact aj rfl rfl)|simp only[aa]) only[mJ,Dsk.l,go_sem,seval,ak])
  try simp[zR,Dsk.l]
 | false =>
  by_cases he:e=0
  ·subst he;cases ar with
   | false =>
    obtain⟨B,hB⟩:=hdo (.cells [.d (.l (fl.map Fil.enc)),zI cp,zB false,zI lf,zB false]) (.cells [.ns,zI 0,zB false,zI 0,zB false]);have hB:=hB rfl rfl;(simp(disch:=first|decide|omega|(intros;exact aj rfl rfl)|simp only[aa]) only[mJ,Dsk.l,↓hcl,↓hf,↓hB,zM,go_sem,seval,ak])
    try simp[zR,Dsk.l]
   | true =>
    obtain⟨B,hB⟩:=hdo (.cells [.d (.l (fl.map Fil.enc)),zI cp,zB true,zI lf,zB false]) (.cells [.ns,zI 0,zB false,zI 0,zB false]);have hB:=hB rfl rfl;by_cases hz:lf=0
    ·subst hz;(simp(disch:=first|decide|omega|(intros;exact aj rfl rfl)|simp only[aa]) only[mJ,Dsk.l,↓hcl,↓hf,↓hB,zM,go_sem,seval,ak])
     try simp[zR,Dsk.l]
    ·(simp(disch:=first|decide|omega|(intros;exact aj rfl rfl)|simp only[aa]) only[mJ,Dsk.l,↓hcl,↓hf,↓hB,zM,hz,go_sem,seval,ak])
     try simp[zR,Dsk.l,hz]
  ·obtain⟨B,hB⟩:=hdo (.cells [.d (.l (fl.map Fil.enc)),zI cp,zB ar,zI lf,zB false]) (.cells [.ns,zI 0,zB false,zI 0,zB false]);have hB:=hB rfl rfl;(simp(disch:=first|decide|omega|(intros;exact aj rfl rfl)|simp only[aa]) only[mJ,Dsk.l,↓hcl,↓hf,↓hB,zM,he,go_sem,seval,ak])
   try simp[zR,Dsk.l,he]
theorem BK (d:Dsk) (hl:d.files.length<=1000000) (hs:srt d.files) (hL:0<=d.left∧d.left<9223372036854775808) (n:Txt) (g:Nat) (x0:List L) (hx0:x0.flatMap L.refs=[]) (fs:List Fil) (e:Int)
  (hdo:∀ D R:Box,∃ B,D=.cells d.l->d.down=false->au call g [.one (.sl 4 3 0 d.files.length),vi (ax d.files n:Nat),vb (bM d.files n),.one (.p 0 0)] [(.cells x0),D,R,.dead,.arr 3 (d.files.map Fil.enc) 0]=some (.tup [(false,[.d (.l (fs.map Fil.enc))]),(false,[zI e])],[(.cells x0),D,R,.dead,B])) :
  call 140 [.agg d.l,vs n,.one (.f g [0])] [(.cells x0)]=some (.tup [(true,(am d (fs,e)).1.l),(false,[.d (.i .i64 (am d (fs,e)).2)])],[(.cells x0)]):=by
 apply ah Lw rfl;have hcl:=Lu (d.files.map Fil.enc) (aV Fil.len _) (by simp;omega) (by simp;omega)
 have hf:∀ D R:Box,au call 172 [.one (.sl 4 3 0 d.files.length),vs n] [(.cells x0),D,R,.dead,.arr 3 (d.files.map Fil.enc) 0]=some (cO d.files n,[(.cells x0),D,R,.dead,.arr 3 (d.files.map Fil.enc) 0]):=fun D R =>
  aE (ids:=[4]) rfl rfl rfl (oD d.files hl hs n) rfl
 unfold cO at hf;obtain⟨fl,cp,ar,lf,dn⟩:=d;simp only at *;unfold am;cases dn with
 | true =>
  (simp(disch:=first|decide|omega|(intros;exact aj rfl rfl)|simp only[aa]) only[mJ,Dsk.l,go_sem,seval,ak])
  try simp[zR,Dsk.l,hx0]
 | false =>
  by_cases he:e=0
  ·subst he;cases ar with
   | false =>
    obtain⟨B,hB⟩:=hdo (.cells [.d (.l (fl.map Fil.enc)),zI cp,zB false,zI lf,zB false]) (.cells [.ns,zI 0,zB false,zI 0,zB false]);have hB:=hB rfl rfl;(simp(disch:=first|decide|omega|(intros;exact aj rfl rfl)|simp only[aa]) only[mJ,Dsk.l,↓hcl,↓hf,↓hB,zM,go_sem,seval,ak])
    try simp[zR,Dsk.l,hx0]
   | true =>
    obtain⟨B,hB⟩:=hdo (.cells [.d (.l (fl.map Fil.enc)),zI cp,zB true,zI lf,zB false]) (.cells [.ns,zI 0,zB false,zI 0,zB false]);have hB:=hB rfl rfl;by_cases hz:lf=0
    ·subst hz;(simp(disch:=first|decide|omega|(intros;exact aj rfl rfl)|simp only[aa]) only[mJ,Dsk.l,↓hcl,↓hf,↓hB,zM,go_sem,seval,ak])
     try simp[zR,Dsk.l,hx0]
    ·(simp(disch:=first|decide|omega|(intros;exact aj rfl rfl)|simp only[aa]) only[mJ,Dsk.l,↓hcl,↓hf,↓hB,zM,hz,go_sem,seval,ak])
     try simp[zR,Dsk.l,hx0,hz]
  ·obtain⟨B,hB⟩:=hdo (.cells [.d (.l (fl.map Fil.enc)),zI cp,zB ar,zI lf,zB false]) (.cells [.ns,zI 0,zB false,zI 0,zB false]);have hB:=hB rfl rfl;(simp(disch:=first|decide|omega|(intros;exact aj rfl rfl)|simp only[aa]) only[mJ,Dsk.l,↓hcl,↓hf,↓hB,zM,he,go_sem,seval,ak])
   try simp[zR,Dsk.l,hx0,he]
theorem Ir (d:Dsk) (hl:d.files.length<=1000000) (hs:srt d.files) (hL:0<=d.left∧d.left<9223372036854775808) (n:Txt) (g:Nat) (x0:List L) (hx0:x0.flatMap L.refs=[]) (x1:List L) (hx1:x1.flatMap L.refs=[]) (fs:List Fil) (e:Int)
  (hdo:∀ D R:Box,∃ B,D=.cells d.l->d.down=false->au call g [.one (.sl 5 3 0 d.files.length),vi (ax d.files n:Nat),vb (bM d.files n),.one (.p 0 0),.one (.p 1 0)] [(.cells x0),(.cells x1),D,R,.dead,.arr 3 (d.files.map Fil.enc) 0]=some (.tup [(false,[.d (.l (fs.map Fil.enc))]),(false,[zI e])],[(.cells x0),(.cells x1),D,R,.dead,B])) :
  call 140 [.agg d.l,vs n,.one (.f g [0,1])] [(.cells x0),(.cells x1)]=some (.tup [(true,(am d (fs,e)).1.l),(false,[.d (.i .i64 (am d (fs,e)).2)])],[(.cells x0),(.cells x1)]):=by
 apply ah Lw rfl;have hcl:=Lu (d.files.map Fil.enc) (aV Fil.len _) (by simp;omega) (by simp;omega)
 have hf:∀ D R:Box,au call 172 [.one (.sl 5 3 0 d.files.length),vs n] [(.cells x0),(.cells x1),D,R,.dead,.arr 3 (d.files.map Fil.enc) 0]=some (cO d.files n,[(.cells x0),(.cells x1),D,R,.dead,.arr 3 (d.files.map Fil.enc) 0]):=fun D R =>
  aE (ids:=[5]) rfl rfl rfl (oD d.files hl hs n) rfl
 unfold cO at hf;obtain⟨fl,cp,ar,lf,dn⟩:=d;simp only at *;unfold am;cases dn with
 | true =>
  (simp(disch:=first|decide|omega|(intros;exact aj rfl rfl)|simp only[aa]) only[mJ,Dsk.l,go_sem,seval,ak])
  try simp[zR,Dsk.l,hx0,hx1]
 | false =>
  by_cases he:e=0
  ·subst he;cases ar with
   | false =>
    obtain⟨B,hB⟩:=hdo (.cells [.d (.l (fl.map Fil.enc)),zI cp,zB false,zI lf,zB false]) (.cells [.ns,zI 0,zB false,zI 0,zB false]);have hB:=hB rfl rfl;(simp(disch:=first|decide|omega|(intros;exact aj rfl rfl)|simp only[aa]) only[mJ,Dsk.l,↓hcl,↓hf,↓hB,zM,go_sem,seval,ak])
    try simp[zR,Dsk.l,hx0,hx1]
   | true =>
    obtain⟨B,hB⟩:=hdo (.cells [.d (.l (fl.map Fil.enc)),zI cp,zB true,zI lf,zB false]) (.cells [.ns,zI 0,zB false,zI 0,zB false]);have hB:=hB rfl rfl;by_cases hz:lf=0
    ·subst hz;(simp(disch:=first|decide|omega|(intros;exact aj rfl rfl)|simp only[aa]) only[mJ,Dsk.l,↓hcl,↓hf,↓hB,zM,go_sem,seval,ak])
     try simp[zR,Dsk.l,hx0,hx1]
    ·(simp(disch:=first|decide|omega|(intros;exact aj rfl rfl)|simp only[aa]) only[mJ,Dsk.l,↓hcl,↓hf,↓hB,zM,hz,go_sem,seval,ak])
     try simp[zR,Dsk.l,hx0,hx1,hz]
  ·obtain⟨B,hB⟩:=hdo (.cells [.d (.l (fl.map Fil.enc)),zI cp,zB ar,zI lf,zB false]) (.cells [.ns,zI 0,zB false,zI 0,zB false]);have hB:=hB rfl rfl;(simp(disch:=first|decide|omega|(intros;exact aj rfl rfl)|simp only[aa]) only[mJ,Dsk.l,↓hcl,↓hf,↓hB,zM,he,go_sem,seval,ak])
   try simp[zR,Dsk.l,hx0,hx1,he]
def gP (l:List Fil) (k:Nat) (f:Fil):List Fil:=l.take k++f::l.drop k
def bh (l:List Fil) (n:Txt):List Fil × Int:=if dm n=true then(if bM l n=true then([],8) else(gP l (ax l n) ⟨n,[],0⟩,0)) else([],1)
theorem cd {l:List Fil} {n:Txt} (h:bM l n=true):∃ hp:ax l n<l.length,l[ax l n].name=n:=by
 unfold bM at h;split at h
 ·rename_i f hf;obtain⟨hp,rfl⟩:=List.getElem?_eq_some_iff.1 hf;exact⟨hp,by simpa using h⟩
 ·cases h
theorem wC (l:List Fil) (k:Nat) (f:Fil):(l.map Fil.enc).take k++f.enc::(l.map Fil.enc).drop k=(gP l k f).map Fil.enc:=by simp[gP]
theorem sh (ρ:Nat->Option Nat) (xs:List L):Box.ren ρ (.cells xs)=.cells (xs.map (L.ren ρ)):=rfl
def nq (fs:List Fil) (e:Int):V:=.tup [(false,[.d (.l (fs.map Fil.enc))]),(false,[zI e])]
theorem vQ (l:List Fil) (k:Nat) (f:Fil) (h:k<=l.length):(gP l k f).length=l.length+1:=by simp[gP];omega
theorem wy (l:List Fil) (hl:l.length<=1000000) (n:Txt):∃ B:Box,(∀ ρ,B.ren ρ=B)∧call 149 [.one (.sl 0 3 0 l.length),vi (ax l n:Nat),vb (bM l n),.one (.p 1 0)] [.arr 3 (l.map Fil.enc) 0,.cells [zS n]]=some (nq (bh l n).1 (bh l n).2,[B,.cells [zS n]]):=by
 have hn:=tp n;unfold bh nq;cases c:dm n with
 | false =>
  refine⟨.arr 3 (l.map Fil.enc) 0,fun _=>rfl,?_⟩
  apply ah L8 rfl;rw[c] at hn;(simp(disch:=first|decide|omega|(intros;exact aj rfl rfl)|simp only[aa]) only[JQ,hn,go_sem,seval,ak])
  try simp[zR]
 | true =>
  rw[c] at hn;cases c2:bM l n with
  | true =>
   refine⟨.arr 3 (l.map Fil.enc) 0,fun _=>rfl,?_⟩
   apply ah L8 rfl;(simp(disch:=first|decide|omega|(intros;exact aj rfl rfl)|simp only[aa]) only[JQ,hn,go_sem,seval,ak])
   try simp[zR]
  | false =>
   refine⟨.dead,fun _=>rfl,?_⟩
   apply ah L8 rfl;have hp:=nr l n;have hi0:=vO (l:=lib) (an:=qy Hj) (P:=Tryz.prog) (f:=151) (k:=3) (bytes:=40) rfl rfl (l.map Fil.enc) (Fil.enc ⟨n,[],0⟩) (ax l n) 0 rfl (by simpa using hp) (by simp;omega) (by simp;omega)
   rw[wC,zM] at hi0;have hi:∀ C:Box,au call 151 [.one (.sl 0 3 0 l.length),vi (ax l n:Nat),.one (.sl 2 3 0 1)] [.arr 3 (l.map Fil.enc) 0,C,.arr 3 [[.s n,.s [],.i .i64 0]] 0]=some (.one (.sl 3 3 0 (l.length+1)),[.dead,C,.arr 3 [[.s n,.s [],.i .i64 0]] 0,.arr 3 ((gP l (ax l n) ⟨n,[],0⟩).map Fil.enc) 0]):=fun C =>
    aE (ids:=[0,2]) rfl rfl rfl hi0 rfl
   have hll:=vQ l (ax l n) ⟨n,[],0⟩ hp;generalize gP l (ax l n) ⟨n,[],0⟩=q at *;have htk:(q.map Fil.enc).take (l.length+1)=q.map Fil.enc:=zL (by simp;omega)
   (simp(disch:=first|decide|omega|(intros;exact aj rfl rfl)|simp only[aa]) only[JQ,hn,↓hi,zM,hll,htk,go_sem,seval,ak])
   try simp[zR]
def aP (r:Dsk × Int):V:=.tup [(true,r.1.l),(false,[zI r.2])]
structure Dsk.ok (d:Dsk):Prop where
 len:d.files.length<=1000000
 srt:srt d.files
 left:0<=d.left∧d.left<9223372036854775808
 cap:0<=d.cap∧d.cap<9223372036854775808
 used:usedF d.files<=1000000000000
theorem ji (d:Dsk) (hd:d.ok) (n:Txt):call 111 [.agg d.l,vs n] []=some (aP (am d (bh d.files n)),[]):=by
 apply ah PC rfl;have h0:=BK d hd.len hd.srt hd.left n 149 [zS n] rfl (bh d.files n).1 (bh d.files n).2 (fun D R=>by
  obtain⟨B,hB,h⟩:=wy d.files hd.len n;exact⟨B,fun _ _=>aE (ids:=[4,0]) rfl rfl rfl h (by simp[bW,hB,nq,V.ren,L.ren,sh])⟩)
 have h:∀ D R:Box,au call 140 [.agg d.l,vs n,.one (.f 149 [1])] [D,.cells [zS n],R]=some (aP (am d (bh d.files n)),[D,.cells [zS n],R]):=fun D R =>
  aE (ids:=[1]) rfl rfl rfl h0 rfl
 generalize am d (bh d.files n)=r at *;obtain⟨⟨f2,cp2,ar2,lf2,dn2⟩,e2⟩:=r;obtain⟨fl,cp,ar,lf,dn⟩:=d;simp only[aP,Dsk.l] at h ⊢;(simp(disch:=first|decide|omega|(intros;exact aj rfl rfl)|simp only[aa]) only[aF,O4,↓h,go_sem,seval,ak])
 try simp[trim]
def qE (l:List Fil) (k:Nat) (g:Fil->Fil):List Fil:=match l[k]? with|some f=>l.set k (g f)|none=>l
theorem jG {l:List Fil} {k:Nat} (h:k<l.length) (g:Fil->Fil):qE l k g=l.set k (g l[k]):=by unfold qE;rw[zE h]
theorem Bm (l:List Fil) (k:Nat) (g:Fil->Fil):(qE l k g).length=l.length:=by unfold qE;split <;> simp
def bH (l:List Fil) (cap:Int) (n x:Txt):List Fil × Int:=if bM l n=true then(if 0<cap∧cap-(usedF l:Nat)<x.length then([],9) else(qE l (ax l n) (fun f=>{ f with data:=f.data++x }),0)) else([],7)
def cq (l:List Fil) (n:Txt):List Fil × Int:=if bM l n=true then(qE l (ax l n) (fun f=>{ f with sure:=f.data.length }),0) else([],7)
def eR (l:List Fil) (k:Nat):List Fil:=l.take k++l.drop (k+1)
def bO (l:List Fil) (n:Txt):List Fil × Int:=if bM l n=true then(eR l (ax l n),0) else([],7)
theorem qS (l:List Fil) (k:Nat) (h:k<l.length):l[k].data.length<=usedF l:=by
 have e:l=l.take k++([l[k]]++l.drop (k+1)):=by rw[List.singleton_append,<- zD h,zY]
 have:usedF l=usedF (l.take k)+(usedF [l[k]]+usedF (l.drop (k+1))):=by
  rw[<- cK,<- cK,<- e]
 rw[gI] at this;omega
theorem Fil.ix1 (f:Fil):f.enc[1]?=some (.s f.data):=Eq.trans rfl rfl
theorem Fil.ix2 (f:Fil):f.enc[2]?=some (.i .i64 f.sure):=Eq.trans rfl rfl
theorem vE (d:Dsk) (hd:d.ok) (n x:Txt) (hx:x.length<=1000000000000):∃ B:Box,(∀ ρ,B.ren ρ=B)∧call 141 [.one (.sl 0 3 0 d.files.length),vi (ax d.files n:Nat),vb (bM d.files n),.one (.p 1 0),.one (.p 2 0)] [.arr 3 (d.files.map Fil.enc) 0,.cells d.l,.cells [zS x]]=some (nq (bH d.files d.cap n x).1 (bH d.files d.cap n x).2,[B,.cells d.l,.cells [zS x]]):=by
 have hu:=Ec d hd.len hd.used;have hub:=hd.used;have hc:=hd.cap;have hln:=hd.len;unfold bH nq;obtain⟨l,cp,ar,lf,dn⟩:=d;simp only at hu hub hc hln ⊢;cases c:bM l n with
 | false =>
  refine⟨.arr 3 (l.map Fil.enc) 0,fun _=>rfl,?_⟩
  apply ah KP rfl;(simp(disch:=first|decide|omega|(intros;exact aj rfl rfl)|simp only[aa]) only[Gs,go_sem,seval,ak])
  try simp[zR,Dsk.l]
 | true =>
  obtain⟨hp,hnm⟩:=cd c;obtain⟨k,hk⟩:∃ k,k=ax l n:=⟨_,rfl⟩;rw[jG hp];simp only[<- hk] at hp hnm ⊢;by_cases c1:0<cp∧cp-(usedF l:Nat)<x.length
  ·refine⟨.arr 3 (l.map Fil.enc) 0,fun _=>rfl,?_⟩
   apply ah KP rfl;obtain⟨c2,c3⟩:=c1;have hw:IntKind.i64.wrap (cp-((usedF l:Nat):Int))=cp-((usedF l:Nat):Int):=lD (by omega)
   have h2:(cp-((usedF l:Nat):Int)<((x.length:Nat):Int))=True:=eq_true c3;simp only[Dsk.l] at hu;(simp(disch:=first|decide|omega|(intros;exact aj rfl rfl)|simp only[aa]) only[Gs,Dsk.l,hu,hw,c2,h2,go_sem,seval,ak])
   try simp[zR,Dsk.l,c2,c3]
  ·have hle:=qS l k hp;have g1:(l.map Fil.enc)[k]?=some l[k].enc:=by simp[hp]
   have hset:(l.map Fil.enc).set k (Fil.enc { l[k] with data:=l[k].data++x })=(l.set k { l[k] with data:=l[k].data++x }).map Fil.enc:=by rw[List.map_set]
   have hup:=Fil.up1 l[k] (l[k].data++x);have hlen:l[k].data.length+x.length<=9223372036854775807:=by omega
   refine⟨.arr 3 ((l.set k { l[k] with data:=l[k].data++x }).map Fil.enc) l.length,fun _=>rfl,?_⟩
   apply ah KP rfl;have htk:((l.set k { l[k] with data:=l[k].data++x }).map Fil.enc).take l.length=(l.set k { l[k] with data:=l[k].data++x }).map Fil.enc:=zL (by simp)
   have hll:((l.set k { l[k] with data:=l[k].data++x }).map Fil.enc).length=l.length:=by simp
   by_cases c2:0<cp
   ·have c3:¬ cp-(usedF l:Nat)<x.length:=fun h=>c1 ⟨c2,h⟩
    have hw:IntKind.i64.wrap (cp-((usedF l:Nat):Int))=cp-((usedF l:Nat):Int):=lD (by omega)
    simp only[Dsk.l] at hu;(simp(disch:=first|decide|omega|(intros;exact aj rfl rfl)|simp only[aa]) only[Gs,Dsk.l,hu,hw,c2,c3,g1,Fil.len,Fil.at1,Fil.ix1,hup,hset,hll,htk,hlen,go_sem,seval,ak])
    try simp[zR,Dsk.l,c2,c3]
   ·(simp(disch:=first|decide|omega|(intros;exact aj rfl rfl)|simp only[aa]) only[Gs,Dsk.l,c2,g1,Fil.len,Fil.at1,Fil.ix1,hup,hset,hll,htk,hlen,go_sem,seval,ak])
    try simp[zR,Dsk.l,c2]
theorem jf (d:Dsk) (hd:d.ok) (n x:Txt) (hx:x.length<=1000000000000):call 102 [.agg d.l,vs n,vs x] []=some (aP (am d (bH d.files d.cap n x)),[]):=by
 apply ah Ru rfl;have hrf:d.l.flatMap L.refs=[]:=rfl;have h0:=Ir d hd.len hd.srt hd.left n 141 d.l hrf [zS x] rfl (bH d.files d.cap n x).1 (bH d.files d.cap n x).2 (fun D R=>by
  obtain⟨B,hB,h⟩:=vE d hd n x hx;exact⟨B,fun _ _=>aE (ids:=[5,0,1]) rfl rfl rfl h (by simp[bW,hB,nq,V.ren,L.ren,sh,Dsk.l])⟩)
 have h:∀ D R:Box,au call 140 [.agg d.l,vs n,.one (.f 141 [0,1])] [.cells d.l,.cells [zS x],R]=some (aP (am d (bH d.files d.cap n x)),[.cells d.l,.cells [zS x],R]):=fun D R =>
  aE (ids:=[0,1]) rfl rfl rfl h0 rfl
 have h:=h .dead;generalize am d (bH d.files d.cap n x)=r at *;obtain⟨⟨f2,cp2,ar2,lf2,dn2⟩,e2⟩:=r;obtain⟨fl,cp,ar,lf,dn⟩:=d;simp only[aP,Dsk.l] at h ⊢;(simp(disch:=first|decide|omega|(intros;exact aj rfl rfl)|simp only[aa]) only[aF,No,↓h,go_sem,seval,ak])
 try simp[trim]
theorem y7 (l:List Fil) (hl:l.length<=1000000) (hu:usedF l<=1000000000000) (n:Txt):∃ B:Box,(∀ ρ,B.ren ρ=B)∧call 144 [.one (.sl 0 3 0 l.length),vi (ax l n:Nat),vb (bM l n)] [.arr 3 (l.map Fil.enc) 0]=some (nq (cq l n).1 (cq l n).2,[B]):=by
 unfold cq nq;cases c:bM l n with
 | false =>
  refine⟨.arr 3 (l.map Fil.enc) 0,fun _=>rfl,?_⟩
  apply ah N3 rfl;(simp(disch:=first|decide|omega|(intros;exact aj rfl rfl)|simp only[aa]) only[KG,go_sem,seval,ak])
  try simp[zR]
 | true =>
  obtain⟨hp,hnm⟩:=cd c;obtain⟨k,hk⟩:∃ k,k=ax l n:=⟨_,rfl⟩;rw[jG hp];simp only[<- hk] at hp hnm ⊢;have hle:=qS l k hp;have g1:(l.map Fil.enc)[k]?=some l[k].enc:=by simp[hp]
  have hset:(l.map Fil.enc).set k (Fil.enc { l[k] with sure:=(l[k].data.length:Nat) })=(l.set k { l[k] with sure:=(l[k].data.length:Nat) }).map Fil.enc:=by rw[List.map_set]
  have hup:=Fil.up2 l[k] (l[k].data.length:Nat);refine⟨.arr 3 ((l.set k { l[k] with sure:=(l[k].data.length:Nat) }).map Fil.enc) l.length,fun _=>rfl,?_⟩
  apply ah N3 rfl;have htk:((l.set k { l[k] with sure:=(l[k].data.length:Nat) }).map Fil.enc).take l.length=(l.set k { l[k] with sure:=(l[k].data.length:Nat) }).map Fil.enc:=zL (by simp)
  have hll:((l.set k { l[k] with sure:=(l[k].data.length:Nat) }).map Fil.enc).length=l.length:=by simp
  (simp(disch:=first|decide|omega|(intros;exact aj rfl rfl)|simp only[aa]) only[KG,g1,Fil.len,Fil.at1,Fil.ix1,Fil.ix2,hup,hset,hll,htk,go_sem,seval,ak])
  try simp[zR]
theorem mI (d:Dsk) (hd:d.ok) (n:Txt):call 104 [.agg d.l,vs n] []=some (aP (am d (cq d.files n)),[]):=by
 apply ah QD rfl;have h0:=Cb d hd.len hd.srt hd.left n 144 (cq d.files n).1 (cq d.files n).2 (fun D R=>by
  obtain⟨B,hB,h⟩:=y7 d.files hd.len hd.used n;exact⟨B,fun _ _=>aE (ids:=[3]) rfl rfl rfl h (by simp[bW,hB,nq,V.ren,L.ren,sh])⟩)
 have h:∀ H:Hp,au call 140 [.agg d.l,vs n,.one (.f 144 [])] H=some (aP (am d (cq d.files n)),H):=fun H=>callIso_pure rfl h0 rfl
 generalize am d (cq d.files n)=r at *;obtain⟨⟨f2,cp2,ar2,lf2,dn2⟩,e2⟩:=r;obtain⟨fl,cp,ar,lf,dn⟩:=d;simp only[aP,Dsk.l] at h ⊢;(simp(disch:=first|decide|omega|(intros;exact aj rfl rfl)|simp only[aa]) only[aF,NQ,↓h,go_sem,seval,ak])
 try simp[trim]
theorem Bn (l:List Fil) (k:Nat):(l.map Fil.enc).take k++(l.map Fil.enc).drop (k+1)=(eR l k).map Fil.enc:=by simp[eR]
theorem om (l:List Fil) (k:Nat) (h:k<l.length):(eR l k).length=l.length-1:=by simp[eR];omega
theorem wD (l:List Fil) (hl:l.length<=1000000) (n:Txt):∃ B:Box,(∀ ρ,B.ren ρ=B)∧call 179 [.one (.sl 0 3 0 l.length),vi (ax l n:Nat),vb (bM l n)] [.arr 3 (l.map Fil.enc) 0]=some (nq (bO l n).1 (bO l n).2,[B]):=by
 unfold bO nq;cases c:bM l n with
 | false =>
  refine⟨.arr 3 (l.map Fil.enc) 0,fun _=>rfl,?_⟩
  apply ah OH rfl;(simp(disch:=first|decide|omega|(intros;exact aj rfl rfl)|simp only[aa]) only[Mc,go_sem,seval,ak])
  try simp[zR]
 | true =>
  obtain⟨hp,hnm⟩:=cd c;refine⟨.dead,fun _=>rfl,?_⟩
  apply ah OH rfl;have hd0:=zt (l:=lib) (an:=qy Hj) (P:=Tryz.prog) (f:=180) (k:=3) rfl rfl rfl (l.map Fil.enc) (ax l n) (by simpa using hp) (by simp;omega)
  rw[Bn,zM] at hd0;have hi:au call 180 [.one (.sl 0 3 0 l.length),vi (ax l n:Nat),.one (zI (((ax l n:Nat):Int)+1))] [.arr 3 (l.map Fil.enc) 0]=some (.one (.sl 1 3 0 (l.length-1)),[.dead,.arr 3 ((eR l (ax l n)).map Fil.enc) 0]) :=
   aE (ids:=[0]) rfl rfl rfl hd0 rfl
  have hll:=om l (ax l n) hp;generalize eR l (ax l n)=q at *;have htk:(q.map Fil.enc).take (l.length-1)=q.map Fil.enc:=zL (by simp;omega)
  (simp(disch:=first|decide|omega|(intros;exact aj rfl rfl)|simp only[aa]) only[Mc,↓hi,zM,hll,htk,go_sem,seval,ak])
  try simp[zR]
theorem fK (d:Dsk) (hd:d.ok) (n:Txt):call 153 [.agg d.l,vs n] []=some (aP (am d (bO d.files n)),[]):=by
 apply ah Pz rfl;have h0:=Cb d hd.len hd.srt hd.left n 179 (bO d.files n).1 (bO d.files n).2 (fun D R=>by
  obtain⟨B,hB,h⟩:=wD d.files hd.len n;exact⟨B,fun _ _=>aE (ids:=[3]) rfl rfl rfl h (by simp[bW,hB,nq,V.ren,L.ren,sh])⟩)
 have h:∀ H:Hp,au call 140 [.agg d.l,vs n,.one (.f 179 [])] H=some (aP (am d (bO d.files n)),H):=fun H=>callIso_pure rfl h0 rfl
 generalize am d (bO d.files n)=r at *;obtain⟨⟨f2,cp2,ar2,lf2,dn2⟩,e2⟩:=r;obtain⟨fl,cp,ar,lf,dn⟩:=d;simp only[aP,Dsk.l] at h ⊢;(simp(disch:=first|decide|omega|(intros;exact aj rfl rfl)|simp only[aa]) only[aF,NB,↓h,go_sem,seval,ak])
 try simp[trim]
theorem kQ {l:List Fil} (h:srt l) (k:Nat):srt (eR l k):=by
 have:(eR l k).Sublist l:=by
  unfold eR;have e:l=l.take k++l.drop k:=(zY k l).symm;conv=>rhs;rw[e]
  exact List.Sublist.append (List.Sublist.refl _) (by rw[show k+1=k+1 from rfl,<- List.drop_drop];exact List.drop_sublist 1 _)
 exact List.Pairwise.sublist this h
def iT (l:List Fil) (f:Fil):List Fil:=if bM l f.name=true then l.set (ax l f.name) f else gP l (ax l f.name) f
def eT (l:List Fil) (k:Nat) (n:Txt):Fil:=match l[k]? with|some f=>{ f with name:=n }|none=>⟨n,[],0⟩
def ii (l:List Fil) (n t:Txt):List Fil × Int:=if bM l n=true then(if dm t=true then(iT (eR l (ax l n)) (eT l (ax l n) t),0) else([],1)) else([],7)
theorem xY (l:List Fil) (k:Nat) (n:Txt):(eT l k n).name=n:=by unfold eT;split <;> rfl
theorem Du (l:List Fil) (f:Fil):(iT l f).length<=l.length+1:=by
 unfold iT;split
 ·simp
 ·rw[vQ _ _ _ (nr _ _)];omega
theorem vx (l:List Fil) (hl:l.length<=1000000) (hs:srt l) (n t:Txt):∃ B:Box,(∀ ρ,B.ren ρ=B)∧call 184 [.one (.sl 0 3 0 l.length),vi (ax l n:Nat),vb (bM l n),.one (.p 1 0)] [.arr 3 (l.map Fil.enc) 0,.cells [zS t]]=some (nq (ii l n t).1 (ii l n t).2,[B,.cells [zS t]]):=by
 have hn:=tp t;unfold ii nq;cases c:bM l n with
 | false =>
  refine⟨.arr 3 (l.map Fil.enc) 0,fun _=>rfl,?_⟩
  apply ah Ly rfl;(simp(disch:=first|decide|omega|(intros;exact aj rfl rfl)|simp only[aa]) only[G4,go_sem,seval,ak])
  try simp[zR]
 | true =>
  obtain⟨hp,hnm⟩:=cd c;cases cn:dm t with
  | false =>
   refine⟨.arr 3 (l.map Fil.enc) 0,fun _=>rfl,?_⟩
   apply ah Ly rfl;rw[cn] at hn;(simp(disch:=first|decide|omega|(intros;exact aj rfl rfl)|simp only[aa]) only[G4,hn,go_sem,seval,ak])
   try simp[zR]
  | true =>
   rw[cn] at hn;refine⟨.dead,fun _=>rfl,?_⟩
   apply ah Ly rfl;have hna:eT l (ax l n) t={ l[ax l n] with name:=t }:=by unfold eT;rw[zE hp]
   have g1:(l.map Fil.enc)[ax l n]?=some l[ax l n].enc:=by simp[hp]
   have hd0:=zt (l:=lib) (an:=qy Hj) (P:=Tryz.prog) (f:=180) (k:=3) rfl rfl rfl (l.map Fil.enc) (ax l n) (by simpa using hp) (by simp;omega)
   rw[Bn,zM] at hd0;have hi:∀ C D:Box,au call 180 [.one (.sl 0 3 0 l.length),vi (ax l n:Nat),.one (zI (((ax l n:Nat):Int)+1))] [.arr 3 (l.map Fil.enc) 0,C,D]=some (.one (.sl 3 3 0 (l.length-1)),[.dead,C,D,.arr 3 ((eR l (ax l n)).map Fil.enc) 0]):=fun C D =>
    aE (ids:=[0]) rfl rfl rfl hd0 rfl
   have hll:=om l (ax l n) hp;have hsd:=kQ hs (ax l n);obtain⟨f,hf⟩:∃ f,f=l[ax l n]:=⟨_,rfl⟩;rw[<- hf] at hna g1;rw[hna];have hlt:ax l n<l.length:=hp;generalize ax l n=p at *;generalize eR l p=q at *;have hfb:=oD q (by omega) hsd t
   rw[hll] at hfb;unfold cO at hfb;have hfi:∀ C D:Box,au call 172 [.one (.sl 3 3 0 (l.length-1)),vs t] [.dead,C,D,.arr 3 (q.map Fil.enc) 0]=some (.tup [(false,[zI (ax q t:Nat)]),(false,[zB (bM q t)])],[.dead,C,D,.arr 3 (q.map Fil.enc) 0]):=fun C D =>
    aE (ids:=[3]) rfl rfl rfl hfb rfl
   unfold iT;cases c2:bM q t with
   | true =>
    obtain⟨hp2,hnm2⟩:=cd c2;rw[c2] at hfi;have g2:(q.map Fil.enc)[ax q t]?=some q[ax q t].enc:=by simp[hp2]
    have hset:(q.map Fil.enc).set (ax q t) (Fil.enc { f with name:=t })=(q.set (ax q t) { f with name:=t }).map Fil.enc:=by rw[List.map_set]
    have hll2:((q.set (ax q t) { f with name:=t }).map Fil.enc).length=l.length-1:=by simp[hll]
    have htk:((q.set (ax q t) { f with name:=t }).map Fil.enc).take (l.length-1)=(q.set (ax q t) { f with name:=t }).map Fil.enc:=zL (by omega)
    have hfe:Fil.enc { f with name:=t }=[.s t,.s f.data,.i .i64 f.sure]:=rfl
    have hfe2:f.enc=[.s f.name,.s f.data,.i .i64 f.sure]:=rfl;have hdr:q[ax q t].enc.drop 3=[]:=rfl;rw[hfe] at hset;rw[hfe2] at g1;(simp(disch:=first|decide|omega|(intros;exact aj rfl rfl)|simp only[aa]) only[G4,hn,g1,↓hi,↓hfi,g2,hset,hll2,htk,Fil.len,List.map_cons,List.map_nil,hdr,List.append_nil,List.nil_append,List.length_cons,List.length_nil,go_sem,seval,ak])
    try simp[zR,c2]
   | false =>
    rw[c2] at hfi;have hp2:=nr q t;have hi0:=vO (l:=lib) (an:=qy Hj) (P:=Tryz.prog) (f:=151) (k:=3) (bytes:=40) rfl rfl (q.map Fil.enc) (Fil.enc { f with name:=t }) (ax q t) 0 rfl (by simpa using hp2) (by simp;omega) (by simp;omega)
    rw[wC,zM,hll] at hi0;have hil:=vQ q (ax q t) { f with name:=t } hp2
    have hin:∀ C D:Box,au call 151 [.one (.sl 3 3 0 (l.length-1)),vi (ax q t:Nat),.one (.sl 4 3 0 1)] [.dead,C,D,.arr 3 (q.map Fil.enc) 0,.arr 3 [[.s t,.s f.data,.i .i64 f.sure]] 0]=some (.one (.sl 5 3 0 (l.length-1+1)),[.dead,C,D,.dead,.arr 3 [[.s t,.s f.data,.i .i64 f.sure]] 0,.arr 3 ((gP q (ax q t) { f with name:=t }).map Fil.enc) 0]):=fun C D =>
     aE (ids:=[3,4]) rfl rfl rfl hi0 rfl
    generalize gP q (ax q t) { f with name:=t }=z at *
    have htk:(z.map Fil.enc).take (l.length-1+1)=z.map Fil.enc:=zL (by simp;omega)
    have hzl:z.length=l.length-1+1:=by omega
    have hfe2:f.enc=[.s f.name,.s f.data,.i .i64 f.sure]:=rfl;rw[hfe2] at g1;(simp(disch:=first|decide|omega|(intros;exact aj rfl rfl)|simp only[aa]) only[G4,hn,g1,↓hi,↓hfi,↓hin,zM,hzl,htk,Fil.len,List.map_cons,List.map_nil,List.append_nil,List.nil_append,List.length_cons,List.length_nil,go_sem,seval,ak])
    try simp[zR,c2]
theorem xV (d:Dsk) (hd:d.ok) (n t:Txt):call 170 [.agg d.l,vs n,vs t] []=some (aP (am d (ii d.files n t)),[]):=by
 apply ah P5 rfl;have h0:=BK d hd.len hd.srt hd.left n 184 [zS t] rfl (ii d.files n t).1 (ii d.files n t).2 (fun D R=>by
  obtain⟨B,hB,h⟩:=vx d.files hd.len hd.srt n t;exact⟨B,fun _ _=>aE (ids:=[4,0]) rfl rfl rfl h (by simp[bW,hB,nq,V.ren,L.ren,sh])⟩)
 have h:∀ D R:Box,au call 140 [.agg d.l,vs n,.one (.f 184 [1])] [D,.cells [zS t],R]=some (aP (am d (ii d.files n t)),[D,.cells [zS t],R]):=fun D R =>
  aE (ids:=[1]) rfl rfl rfl h0 rfl
 generalize am d (ii d.files n t)=r at *;obtain⟨⟨f2,cp2,ar2,lf2,dn2⟩,e2⟩:=r;obtain⟨fl,cp,ar,lf,dn⟩:=d;simp only[aP,Dsk.l] at h ⊢;(simp(disch:=first|decide|omega|(intros;exact aj rfl rfl)|simp only[aa]) only[aF,ND,↓h,go_sem,seval,ak])
 try simp[trim]
def NL (c:Nat->Int):List L:=(List.range 14).map fun j=>zU (c j)
theorem yL (c:Nat->Int):(NL c).length=14:=by simp[NL]
theorem GT (c:Nat->Int) (n:Nat) (x:Int) (h:n<14):(NL c).take n++[zU x]++(NL c).drop (n+1)=NL (fun j=>if j=n then x else c j):=by
 rw[List.append_assoc,List.singleton_append];apply List.ext_getElem?;intro j;have hl:((NL c).take n).length=n:=by rw[zQ,yL];omega
 by_cases hj:j<14
 ·have e:∀ c:Nat->Int,(NL c)[j]?=some (zU (c j)):=fun c=>by simp[NL,hj]
  rw[e];rcases Nat.lt_trichotomy j n with h1|h1|h1
  ·rw[List.getElem?_append_left (by omega),List.getElem?_take,if_pos h1,e,if_neg (by omega)]
  ·subst h1;rw[List.getElem?_append_right (by omega),hl,Nat.sub_self,if_pos rfl];rfl
  ·rw[List.getElem?_append_right (by omega),hl,if_neg (by omega)]
   obtain⟨m,hm⟩:∃ m,j-n=m+1:=⟨j-n-1,by omega⟩
   rw[hm,List.getElem?_cons_succ,List.getElem?_drop,show n+1+m=j by omega,e]
 ·rw[List.getElem?_eq_none (by simp[NL];omega),List.getElem?_eq_none (by simp[NL];omega)]
def iN (n j:Nat):Nat:=48+n / 10 ^ (13-j) % 10
def fc (c:UInt8) (n:Nat):Txt:=c::(List.range 13).map fun j=>UInt8.ofNat (iN n (j+1))
def cF (n i:Nat) (j:Nat):Int:=if j<=i then 0 else((iN n j:Nat):Int)
theorem Je (n i:Nat) (h:1<=i∧i<=13):(fun j=>if j=i then(48+((n / 10 ^ (13-i) % 10:Nat):Int)) else cF n i j)=cF n (i-1):=by
 funext j
 unfold cF iN;by_cases h1:j=i
 ·subst h1;rw[if_pos rfl,if_neg (by omega)];omega
 ·rw[if_neg h1];by_cases h2:j<=i
  ·rw[if_pos h2,if_pos (by omega)]
  ·rw[if_neg h2,if_neg (by omega)]
theorem IE:[zU 0,zU 0,zU 0,zU 0,zU 0,zU 0,zU 0,zU 0,zU 0,zU 0,zU 0,zU 0,zU 0,zU 0]=NL (fun _=>0):=rfl
theorem OV (n:Nat):NL (fun _=>0)=NL (cF n 13):=by
 unfold NL;apply List.map_congr_left;intro j hj;rw[List.mem_range] at hj;unfold cF;rw[if_pos (by omega)]
theorem Fh (n i:Nat) (h:1<=i∧i<=13):n / 10 ^ (13-i) / 10=n / 10 ^ (13-(i-1)):=by
 rw[Nat.div_div_eq_div_mul,<- Nat.pow_succ];congr 2;omega
theorem t8 (c:UInt8) (n:Nat) (hn:n<=1099511627776):call 143 [vk .u8 ((c.toNat:Nat):Int),vi n] []=some (vs (fc c n),[]):=by
 apply ah QI rfl;obtain⟨Z,hZ⟩:∃ Z:V × Hp,Z=(vs (fc c n),[]):=⟨_,rfl⟩;rw[<- hZ];have hz:=IE;(simp(disch:=first|decide|omega|(intros;exact aj rfl rfl)|simp only[aa]) only[N0,hz,OV n,go_sem,seval,ak])
 refine aB (m:=0) (σ:=Nat) (fun i=>i) (fun i=>i<=13) (fun i=>[vk .u8 ((c.toNat:Nat):Int),vi (n / 10 ^ (13-i):Nat),V.one (.p 0 0),vi i]) (fun i=>[.cells (NL (cF n i))]) (fun _=>Z) ?_ 13 (Nat.le_refl _) _ _ ?_
 rotate_left
 ·have e:n / 10 ^ (13-13)=n:=by simp
  rw[e];exact cm
 intro i hi R hR;by_cases c1:0<i
 ·have hR':=hR (i-1) (by omega) (by omega)
  rw[<- Je n i (by omega),<- Fh n i (by omega)] at hR'
  obtain⟨q,hq⟩:∃ q,q=n / 10 ^ (13-i):=⟨_,rfl⟩;rw[<- hq] at hR' ⊢;have hqn:q<=n:=by rw[hq];exact Nat.div_le_self _ _
  have hm:((q:Nat):Int).tmod 10=((q % 10:Nat):Int):=by rw[Int.tmod_eq_emod_of_nonneg (by omega)];omega
  have hd:((q:Nat):Int).tdiv 10=((q / 10:Nat):Int):=by rw[Int.tdiv_eq_ediv_of_nonneg (by omega)];omega
  have hset:=GT (cF n i) i (48+((q % 10:Nat):Int)) (by omega)
  have hsub:(i:Int)-1=((i-1:Nat):Int):=by omega
  (simp(disch:=first|decide|omega|(intros;exact aj rfl rfl)|simp only[aa]) only[Bc,c1,hm,hd,hset,yL,Nat.mul_one,Nat.zero_add,hsub,go_sem,seval,ak])
  exact hR' _ _ cm
 ·have h0:i=0:=by omega
  subst h0;have hset:=GT (cF n 0) 0 ((c.toNat:Nat):Int) (by decide)
  have hex:NL (fun j=>if j=0 then((c.toNat:Nat):Int) else cF n 0 j)=[zU ((c.toNat:Nat):Int),zU (iN n 1:Nat),zU (iN n 2:Nat),zU (iN n 3:Nat),zU (iN n 4:Nat),zU (iN n 5:Nat),zU (iN n 6:Nat),zU (iN n 7:Nat),zU (iN n 8:Nat),zU (iN n 9:Nat),zU (iN n 10:Nat),zU (iN n 11:Nat),zU (iN n 12:Nat),zU (iN n 13:Nat)]:=rfl
  simp only[List.take_zero,List.nil_append] at hset;rw[hex] at hset;(simp(disch:=first|decide|omega|(intros;exact aj rfl rfl)|simp only[aa]) only[Bc,c1,hset,yL,Nat.mul_one,Nat.zero_add,List.nil_append,fj,Int.toNat_natCast,List.map_cons,List.map_nil,UInt8.ofNat_toNat,go_sem,seval,ak])
  rw[hZ];try rfl
theorem GB (n:Nat) (hn:n<=1099511627776):call 103 [vi n] []=some (vs (fc 115 n),[]):=by
 apply ah PG rfl;have h:=t8 115 n hn;have e:(((115:UInt8).toNat:Nat):Int)=115:=rfl;rw[e] at h;(simp(disch:=first|decide|omega|(intros;exact aj rfl rfl)|simp only[aa]) only[NE,h,go_sem,seval,ak])
 try simp[trim]
structure Man where
 ver:Int
 segs:List Int
 size:Int
 sum:Int
def eI (n:Int):List D:=[.i .i64 n]
theorem dg (n:Int):(eI n).length=1:=Eq.trans rfl rfl
theorem eK (n:Int):(eI n)[0]?=some (.i .i64 n):=Eq.trans rfl rfl
def Man.l (m:Man):List L:=[zI m.ver,.d (.l (m.segs.map eI)),zI m.size,zW m.sum]
def jK:Int->List Int->Bool
 | _,[]=>true
 | a,n::l=>decide (a<n∧n<=1099511627776) && jK n l
def manB (m:Man):Bool:=decide (1<=m.ver∧m.ver<=1099511627776∧1<=m.segs.length∧m.segs.length<=64) && (jK (-1) m.segs && (if m.segs.head?=some 0 then decide (m.size=0∧m.sum=0) else decide (0<m.size∧m.size<=65536)))
theorem uG {l:List Int} {i:Nat} (a:Int) (h:i<l.length):jK a (l.drop i)=(decide (a<l[i]∧l[i]<=1099511627776) && jK l[i] (l.drop (i+1))):=by
 rw[zD h];rfl
theorem tT (m:Man) (hl:m.segs.length<=1000000):call 181 [.agg m.l] []=some (vb (manB m),[]):=by
 obtain⟨ver,segs,size,sum⟩:=m;unfold manB Man.l;simp only at hl ⊢;apply ah PF rfl;by_cases c1:1<=ver
 ·by_cases c2:ver<=1099511627776
  ·by_cases c3:1<=segs.length
   ·by_cases c4:segs.length<=64
    ·rw[decide_eq_true ⟨c1,c2,c3,c4⟩,Bool.true_and];obtain⟨Z,hZ⟩:∃ Z:V × Hp,Z=(vb (jK (-1) segs && (if segs.head?=some 0 then decide (size=0∧sum=0) else decide (0<size∧size<=65536))),[]):=⟨_,rfl⟩
     rw[<- hZ];(simp(disch:=first|decide|omega|(intros;exact aj rfl rfl)|simp only[aa]) only[CW,c1,c2,c3,c4,go_sem,seval,ak])
     refine aB (m:=0) (σ:=Nat × Int) (fun t=>segs.length-t.1) (fun t=>t.1<=segs.length∧jK (-1) segs=jK t.2 (segs.drop t.1)) (fun t=>[V.one (.p 0 0),vi t.2,vl (segs.map eI),vi segs.length,vi t.1])
      (fun _=>[.cells [zI ver,.d (.l (segs.map eI)),zI size,zW sum]]) (fun _=>Z) ?_ (0,-1) ⟨zP _,rfl⟩ _ _ ?_
     rotate_left
     ·exact cm
     rintro⟨i,a⟩ ⟨hi,hinc⟩ R hR;simp only at hi hinc ⊢;by_cases c5:i<segs.length
     ·have g1:(segs.map eI)[i]?=some (eI segs[i]):=by simp[c5]
      rw[uG a c5] at hinc;by_cases c6:segs[i]<=a
      ·have hd:decide (a<segs[i]∧segs[i]<=1099511627776)=false:=zF (by omega)
       rw[hd,Bool.false_and] at hinc;rw[hinc,Bool.false_and] at hZ;(simp(disch:=first|decide|omega|(intros;exact aj rfl rfl)|simp only[aa]) only[jH,g1,dg,eK,c6,go_sem,seval,ak])
       rw[hZ]
      ·by_cases c7:segs[i]<=1099511627776
       ·have hd:decide (a<segs[i]∧segs[i]<=1099511627776)=true:=zT (by omega)
        rw[hd,Bool.true_and] at hinc;(simp(disch:=first|decide|omega|(intros;exact aj rfl rfl)|simp only[aa]) only[jH,g1,dg,eK,c6,c7,go_sem,seval,ak])
        exact hR (i+1,segs[i]) (by simp only[];omega) ⟨by simp only[];omega,hinc⟩ _ _ cm
       ·have hd:decide (a<segs[i]∧segs[i]<=1099511627776)=false:=zF (by omega)
        rw[hd,Bool.false_and] at hinc;rw[hinc,Bool.false_and] at hZ;(simp(disch:=first|decide|omega|(intros;exact aj rfl rfl)|simp only[aa]) only[jH,g1,dg,eK,c6,c7,go_sem,seval,ak])
        rw[hZ]
     ·rw[List.drop_of_length_le (by omega)] at hinc
      have hinc2:jK (-1) segs=true:=hinc;rw[hinc2,Bool.true_and] at hZ;have g0:(segs.map eI)[0]?=some (eI segs[0]):=by rw[zG,zE c3];rfl
      have hh:segs.head?=some segs[0]:=by rw[List.head?_eq_getElem?];simp
      rw[hh] at hZ;by_cases z:segs[0]=0
      ·rw[if_pos (by rw[z])] at hZ
       by_cases z2:size=0
       ·by_cases z3:sum=0
        ·(simp(disch:=first|decide|omega|(intros;exact aj rfl rfl)|simp only[aa]) only[jH,c5,g0,dg,eK,z,z2,z3,go_sem,seval,ak])
         rw[hZ];simp[z2,z3]
        ·(simp(disch:=first|decide|omega|(intros;exact aj rfl rfl)|simp only[aa]) only[jH,c5,g0,dg,eK,z,z2,z3,go_sem,seval,ak])
         rw[hZ];simp[z2,z3]
       ·(simp(disch:=first|decide|omega|(intros;exact aj rfl rfl)|simp only[aa]) only[jH,c5,g0,dg,eK,z,z2,go_sem,seval,ak])
        rw[hZ];simp[z2]
      ·rw[if_neg (by simpa using z)] at hZ
       by_cases z2:0<size
       ·by_cases z3:size<=65536
        ·(simp(disch:=first|decide|omega|(intros;exact aj rfl rfl)|simp only[aa]) only[jH,c5,g0,dg,eK,z,z2,z3,go_sem,seval,ak])
         rw[hZ];simp[z2,z3]
        ·(simp(disch:=first|decide|omega|(intros;exact aj rfl rfl)|simp only[aa]) only[jH,c5,g0,dg,eK,z,z2,z3,go_sem,seval,ak])
         rw[hZ];simp[z2,z3]
       ·(simp(disch:=first|decide|omega|(intros;exact aj rfl rfl)|simp only[aa]) only[jH,c5,g0,dg,eK,z,z2,go_sem,seval,ak])
        rw[hZ];simp[z2]
    ·rw[zF (fun h=>c4 h.2.2.2),Bool.false_and]
     (simp(disch:=first|decide|omega|(intros;exact aj rfl rfl)|simp only[aa]) only[CW,c1,c2,c3,c4,go_sem,seval,ak])
     try simp[trim]
   ·rw[zF (fun h=>c3 h.2.2.1),Bool.false_and]
    (simp(disch:=first|decide|omega|(intros;exact aj rfl rfl)|simp only[aa]) only[CW,c1,c2,c3,go_sem,seval,ak])
    try simp[trim]
  ·rw[zF (fun h=>c2 h.2.1),Bool.false_and]
   (simp(disch:=first|decide|omega|(intros;exact aj rfl rfl)|simp only[aa]) only[CW,c1,c2,go_sem,seval,ak])
   try simp[trim]
 ·rw[zF (fun h=>c1 h.1),Bool.false_and]
  (simp(disch:=first|decide|omega|(intros;exact aj rfl rfl)|simp only[aa]) only[CW,c1,go_sem,seval,ak])
  try simp[trim]
structure Man.ok (m:Man):Prop where
 len:m.segs.length<=1000000
 sum:0<=m.sum∧m.sum<4294967296
theorem lP {m:Man} (h:manB m=true):(1<=m.ver∧m.ver<=1099511627776)∧(1<=m.segs.length∧m.segs.length<=64)∧jK (-1) m.segs=true∧(0<=m.size∧m.size<=65536):=by
 unfold manB at h;simp only[Bool.and_eq_true,decide_eq_true_eq] at h;obtain⟨⟨h1,h2,h3,h4⟩,h5,h6⟩:=h;refine⟨⟨h1,h2⟩,⟨h3,h4⟩,h5,?_⟩;split at h6 <;> simp only[decide_eq_true_eq] at h6 <;> omega
theorem oA:∀ (l:List Int) (a:Int),jK a l=true->∀ n∈l,a<n∧n<=1099511627776
 | [],_,_,n,hn=>by cases hn
 | x::l,a,h,n,hn=>by
  simp only[jK,Bool.and_eq_true,decide_eq_true_eq] at h;rcases List.mem_cons.1 hn with rfl|hn
  ·exact h.1
  ·have:=oA l x h.2 n hn;omega
def de (l:List Int):Txt:=l.flatMap fun n=>aq n.toNat
theorem uo (a b:List Int):de (a++b)=de a++de b:=List.flatMap_append
theorem wd {n:Nat} (h:n<9223372036854775808):1<=(aq n).length∧(aq n).length<=9:=⟨fA n,du h⟩
theorem mr:∀ (l:List Int),(∀ n∈l,0<=n∧n<9223372036854775808)->(de l).length<=9*l.length
 | [],_=>by simp[de]
 | n::l,h=>by
  have ih:=mr l (fun x hx=>h x (List.mem_cons_of_mem _ hx))
  have:=(wd (n:=n.toNat) (by have:=h n (by simp);omega)).2
  have e:de (n::l)=aq n.toNat++de l:=rfl;rw[e,zA,List.length_cons];omega
def ni (m:Man):iC:=BitVec.ofNat 32 m.sum.toNat
def fi (m:Man):Txt:=de (m.ver::(m.segs.length:Int)::m.segs++[m.size])++jb (ni m)
def ct (m:Man):Txt:=aY (fi m)
theorem lK {m:Man} (h:manB m=true):1<=(fi m).length∧(fi m).length<=700:=by
 obtain⟨h1,h2,h3,h4⟩:=lP h;have hm:=oA _ _ h3;have hl:=mr (m.ver::(m.segs.length:Int)::m.segs++[m.size]) (by
  intro n hn;simp only[List.cons_append,List.mem_cons,zX,List.not_mem_nil,or_false] at hn;rcases hn with rfl|rfl|hn|rfl
  ·omega
  ·omega
  ·have:=hm n hn;omega
  ·omega)
 unfold fi;rw[zA,gG];simp only[List.cons_append,List.length_cons,zA,List.length_nil] at hl ⊢;omega
def bC (m:Man):Txt × Int:=if manB m=true then(ct m,0) else([],1)
theorem yq (m:Man) (hm:m.ok):call 165 [.agg m.l] []=some (.tup [(false,[.d (.s (bC m).1)]),(false,[.d (.i .i64 (bC m).2)])],[]):=by
 have hr:=tT m hm.len;unfold bC;cases c:manB m with
 | false =>
  rw[c] at hr;apply ah Nc rfl;simp only[Man.l] at hr;(simp(disch:=first|decide|omega|(intros;exact aj rfl rfl)|simp only[aa]) only[Lt,Man.l,hr,go_sem,seval,ak])
  try simp[trim]
 | true =>
  rw[c] at hr;have hb:=lK c;obtain⟨h1,h2,h3,h4⟩:=lP c;have hmem:=oA _ _ h3;have hsum:=hm.sum;have hf:call 162 [.one (zW m.sum)] []=some (vs (jb (ni m)),[]):=by
   have:=pz (ni m);have e:(((ni m).toNat:Nat):Int)=m.sum:=by unfold ni;simp;omega
   rw[e] at this;exact this
  have hp:=mN (fi m) (by omega)
  unfold xK at hp;rw[if_pos ⟨hb.1,by omega⟩] at hp
  have q1:=DT (n:=m.ver) (by omega) (by omega)
  have q2:=DT (n:=(m.segs.length:Int)) (by omega) (by omega)
  rw[Int.toNat_natCast] at q2;have q3:=DT (n:=m.size) (by omega) (by omega)
  have l1:=(wd (n:=m.ver.toNat) (by omega)).2
  have l2:=(wd (n:=m.segs.length) (by omega)).2
  have l3:=(wd (n:=m.size.toNat) (by omega)).2
  unfold ct;have hbd:fi m=((aq m.ver.toNat++aq m.segs.length)++de m.segs++aq m.size.toNat)++jb (ni m):=by
   unfold fi;simp[de,List.append_assoc]
  rw[hbd] at hp hb ⊢;have h4l:=gG (ni m);generalize jb (ni m)=F4 at *;obtain⟨ver,segs,size,sum⟩:=m;simp only[Man.l] at *;apply ah Nc rfl;obtain⟨W,hW⟩:∃ W:Txt,W=aY (((aq ver.toNat++aq segs.length)++de segs++aq size.toNat)++F4):=⟨_,rfl⟩;rw[<- hW] at hp ⊢;have l12:(aq ver.toNat).length+(aq segs.length).length<=9223372036854775807:=by omega
  (simp(disch:=first|decide|omega|(intros;exact aj rfl rfl)|simp only[aa]) only[Lt,hr,q1,q2,l12,go_sem,seval,ak])
  refine aB (m:=0) (σ:=Nat) (fun i=>segs.length-i) (fun i=>i<=segs.length) (fun i=>[V.one (.p 0 0),vs ((aq ver.toNat++aq segs.length)++de (segs.take i)),vl (segs.map eI),vi segs.length,vi i])
   (fun _=>[.cells [zI ver,.d (.l (segs.map eI)),zI size,zW sum]]) (fun _=>(V.tup [(false,[zS W]),(false,[zI 0])],[])) ?_ 0 (zP _) _ _ ?_
  rotate_left
  ·have e:(aq ver.toNat++aq segs.length)++de (segs.take 0)=aq ver.toNat++aq segs.length:=by simp[de]
   rw[e];exact cm
  intro i hi R hR;have hln:=mr (segs.take i) (fun n hn=>by have:=hmem n (zZ hn);omega)
  have hti:(segs.take i).length=i:=by simp;omega
  rw[hti] at hln;by_cases c5:i<segs.length
  ·have g1:(segs.map eI)[i]?=some (eI segs[i]):=by simp[c5]
   have hmi:=hmem _ (zN c5);have q4:=DT (n:=segs[i]) (by omega) (by omega)
   have l4:=(wd (n:=segs[i].toNat) (by omega)).2
   have hR':=hR (i+1) (by omega) (by omega)
   have e1:de (segs.take (i+1))=de (segs.take i)++aq segs[i].toNat:=by
    rw[zO c5,uo];simp[de]
   rw[e1,<- List.append_assoc] at hR';obtain⟨P,hP⟩:∃ P:Txt,P=(aq ver.toNat++aq segs.length)++de (segs.take i):=⟨_,rfl⟩;have hPl:P.length+(aq segs[i].toNat).length<=9223372036854775807:=by rw[hP,zA,zA];omega
   rw[<- hP] at hR' ⊢;(simp(disch:=first|decide|omega|(intros;exact aj rfl rfl)|simp only[aa]) only[yX,g1,dg,eK,q4,hPl,go_sem,seval,ak])
   exact hR' _ _ cm
  ·have hin:i=segs.length:=by omega
   subst hin;rw[List.take_length] at hln ⊢;obtain⟨P,hP⟩:∃ P:Txt,P=(aq ver.toNat++aq segs.length)++de segs:=⟨_,rfl⟩;have hPl:P.length+(aq size.toNat).length<=9223372036854775807:=by rw[hP,zA,zA];omega
   have hPl2:(P++aq size.toNat).length+F4.length<=9223372036854775807:=by rw[hP,zA,zA,zA];omega
   rw[<- hP] at hp ⊢;obtain⟨P2,hP2⟩:∃ P2:Txt,P2=P++aq size.toNat:=⟨_,rfl⟩;rw[<- hP2] at hp hPl2;(simp(disch:=first|decide|omega|(intros;exact aj rfl rfl)|simp only[aa]) only[yX,q3,hPl,<- hP2,hPl2,hf,hp,go_sem,seval,ak])
   try simp[trim]
theorem mA {l:List Fil} (hs:srt l) {n:Txt} (h:bM l n=false):∀ f∈l,f.name≠n:=by
 intro f hf he;obtain⟨i,hi,rfl⟩:=zJ hf;have h1:¬ i<ax l n:=by
  rw[<- iq hs n i hi,he,kH];decide
 have h2:i=ax l n:=by
  rcases Nat.lt_or_ge (ax l n) i with h3|h3
  ·have hp:ax l n<l.length:=by omega
   have h4:=(List.pairwise_iff_getElem.1 hs) (ax l n) i hp hi h3;rw[he] at h4;have:=(iq hs n _ hp).1 h4;omega
  ·omega
 unfold bM at h;rw[<- h2,zE hi] at h;simp[he] at h
theorem xD {l:List Fil} (hs:srt l) {f:Fil} (hf:f∈l):bM l f.name=true:=by
 cases h:bM l f.name with
 | true=>rfl
 | false=>exact absurd rfl (mA hs h f hf)
theorem Gp {l:List Fil} (hs:srt l) (i:Nat) (hi:i<l.length):ax l l[i].name=i:=by
 have h:=xD hs (zN hi);obtain⟨hp,he⟩:=cd h;rcases Nat.lt_trichotomy (ax l l[i].name) i with h1|h1|h1
 ·have:=(List.pairwise_iff_getElem.1 hs) _ _ hp hi h1;rw[he,kH] at this;cases this
 ·exact h1
 ·have:=(List.pairwise_iff_getElem.1 hs) _ _ hi hp h1;rw[he,kH] at this;cases this
theorem mt {l l':List Fil} (h:l'.map Fil.name=l.map Fil.name) (hs:srt l):srt l':=by
 have h1:(l.map Fil.name).Pairwise fun a b=>bl a b=true:=List.pairwise_map.2 hs
 rw[<- h] at h1;exact List.pairwise_map.1 h1
theorem pK (l:List Fil) (k:Nat) (g:Fil->Fil) (hg:∀ f,(g f).name=f.name):(qE l k g).map Fil.name=l.map Fil.name:=by
 unfold qE;split
 ·rename_i f hf;obtain⟨h,rfl⟩:=List.getElem?_eq_some_iff.1 hf;rw[List.map_set,hg];have e:(l[k]).name=(l.map Fil.name)[k]'(by simpa using h):=by simp
  rw[e,List.set_getElem_self]
 ·rfl
theorem wu {l:List Fil} (hs:srt l) (f:Fil) (h:bM l f.name=false):srt (gP l (ax l f.name) f):=by
 have hf:=mA hs h;have h1:∀ x∈l.take (ax l f.name),bl x.name f.name=true:=by
  intro x hx;obtain⟨i,hi,rfl⟩:=zJ hx;rw[zQ] at hi;rw[List.getElem_take];exact(iq hs f.name i (by omega)).2 (by omega)
 have h2:∀ x∈l.drop (ax l f.name),bl f.name x.name=true:=by
  intro x hx;obtain⟨i,hi,rfl⟩:=zJ hx;rw[zH] at hi;rw[List.getElem_drop];have h3:¬ bl l[ax l f.name+i].name f.name=true:=fun h=>by
   have:=(iq hs f.name _ (by omega)).1 h;omega
  rcases wF l[ax l f.name+i].name f.name with h4|h4|h4
  ·exact absurd h4 h3
  ·exact absurd h4 (hf _ (zN _))
  ·exact h4
 have hsp:srt (l.take (ax l f.name)++l.drop (ax l f.name)):=by rw[zY];exact hs
 unfold srt at hsp;rw[List.pairwise_append] at hsp;unfold gP srt;rw[List.pairwise_append];refine⟨hsp.1,List.pairwise_cons.2 ⟨h2,hsp.2.1⟩,fun a ha b hb=>?_⟩
 rcases List.mem_cons.1 hb with rfl|hb
 ·exact h1 a ha
 ·exact hsp.2.2 a ha b hb
theorem IZ {l:List Fil} (hs:srt l) (f:Fil) (h:bM l f.name=true):srt (l.set (ax l f.name) f):=by
 obtain⟨hp,he⟩:=cd h;refine mt ?_ hs;rw[List.map_set];generalize ax l f.name=p at hp he;rw[<- he];have e:l[p].name=(l.map Fil.name)[p]'(by simpa using hp):=by simp
 rw[e,List.set_getElem_self]
theorem Cf {l:List Fil} (hs:srt l) (f:Fil):srt (iT l f):=by
 unfold iT;cases h:bM l f.name with
 | true=>rw[if_pos rfl];exact IZ hs f h
 | false=>rw[if_neg (by simp)];exact wu hs f h
structure okN (k u:Nat) (d:Dsk):Prop where
 len:d.files.length<=k
 srt:srt d.files
 left:0<=d.left∧d.left<9223372036854775808
 cap:0<=d.cap∧d.cap<9223372036854775808
 used:usedF d.files<=u
theorem okN.ok {k u:Nat} {d:Dsk} (h:okN k u d) (hk:k<=1000000) (hu:u<=1000000000000):d.ok :=
 ⟨Nat.le_trans h.len hk,h.srt,h.left,h.cap,Nat.le_trans h.used hu⟩
theorem okN.up {k u k' u':Nat} {d:Dsk} (h:okN k u d) (hk:k<=k') (hu:u<=u'):okN k' u' d :=
 ⟨Nat.le_trans h.len hk,h.srt,h.left,h.cap,Nat.le_trans h.used hu⟩
theorem tw {k u:Nat} {d:Dsk} (h:okN k u d) {r:List Fil × Int} (hr:r.2=0->r.1.length<=k∧Go.Proofs.YtgoifbjgmgbihaaGreat.srt r.1∧usedF r.1<=u):okN k u (am d r).1:=by
 obtain⟨a1,a2,a3,a4,a5⟩:=h;unfold am;split
 ·exact⟨a1,a2,a3,a4,a5⟩
 ·split
  ·exact⟨a1,a2,a3,a4,a5⟩
  ·rename_i h2;obtain⟨b1,b2,b3⟩:=hr (by simpa using h2)
   split
   ·split
    ·exact⟨a1,a2,a3,a4,a5⟩
    ·rename_i h4;exact⟨b1,b2,by simp only[];omega,a4,b3⟩
   ·exact⟨b1,b2,a3,a4,b3⟩
def uL (s:Dsk × Int) (f:Dsk->Dsk × Int):Dsk × Int:=if s.2=0 then f s.1 else s
def bL (n:Txt) (s:Dsk × Int):Dsk × Int:=uL s fun d=>am d (bh d.files n)
def dw (n:Txt) (s:Dsk × Int):Dsk × Int:=uL s fun d=>am d (bO d.files n)
def fO (n:Txt) (s:Dsk × Int):Dsk × Int:=uL s fun d=>am d (cq d.files n)
def fD (n x:Txt) (s:Dsk × Int):Dsk × Int:=uL s fun d=>am d (bH d.files d.cap n x)
def vH (n t:Txt) (s:Dsk × Int):Dsk × Int:=uL s fun d=>am d (ii d.files n t)
def cN (n:Txt) (s:Dsk × Int):Dsk × Int:=if s.2≠9 then s else if(dw n (s.1,0)).2=0 then((dw n (s.1,0)).1,9) else dw n (s.1,0)
theorem wM (l:List Fil) (k:Nat) (f:Fil):usedF (gP l k f)=usedF l+f.data.length:=by
 have e:gP l k f=l.take k++([f]++l.drop k):=rfl;rw[e,cK,cK,gI];have:usedF l=usedF (l.take k)+usedF (l.drop k):=by rw[<- cK,zY]
 omega
theorem sQ (l:List Fil) (k:Nat) (h:k<l.length) (f:Fil):usedF (l.set k f)+l[k].data.length=usedF l+f.data.length:=by
 have e:l.set k f=l.take k++([f]++l.drop (k+1)):=by rw[List.set_eq_take_append_cons_drop,if_pos h];rfl
 have e2:l=l.take k++([l[k]]++l.drop (k+1)):=by rw[List.singleton_append,<- zD h,zY]
 have:usedF l=usedF (l.take k)+(l[k].data.length+usedF (l.drop (k+1))):=by rw[<- gI l[k],<- cK,<- cK,<- e2]
 rw[e,cK,cK,gI];omega
theorem w6 (l:List Fil) (k:Nat) (h:k<l.length):usedF (eR l k)+l[k].data.length=usedF l:=by
 have e2:l=l.take k++([l[k]]++l.drop (k+1)):=by rw[List.singleton_append,<- zD h,zY]
 have:usedF l=usedF (l.take k)+(l[k].data.length+usedF (l.drop (k+1))):=by rw[<- gI l[k],<- cK,<- cK,<- e2]
 unfold eR;rw[cK];omega
theorem to {k u:Nat} {s:Dsk × Int} {f:Dsk->Dsk × Int} (h:okN k u s.1) (hf:okN k u (f s.1).1):okN k u (uL s f).1:=by
 unfold uL;split
 ·exact hf
 ·exact h
theorem dY {k u:Nat} {s:Dsk × Int} (h:okN k u s.1) (n:Txt):okN (k+1) u (bL n s).1:=by
 refine to (h.up (by omega) (Nat.le_refl _)) (tw (h.up (by omega) (Nat.le_refl _)) fun h0=>?_)
 unfold bh at h0 ⊢;split at h0
 ·rename_i h1;split at h0
  ·cases h0
  ·rename_i h2;rw[if_pos h1,if_neg h2];refine⟨by rw[vQ _ _ _ (nr _ _)];have:=h.len;omega,wu h.srt ⟨n,[],0⟩ (by simpa using h2),?_⟩
   rw[wM];exact h.used
 ·cases h0
theorem dL {k u:Nat} {s:Dsk × Int} (h:okN k u s.1) (n:Txt):okN k u (dw n s).1:=by
 refine to h (tw h fun h0=>?_)
 unfold bO at h0 ⊢;split at h0
 ·rename_i h1;rw[if_pos h1];obtain⟨hp,_⟩:=cd h1;refine⟨by rw[om _ _ hp];have:=h.len;omega,kQ h.srt _,?_⟩
  have h3:=w6 _ _ hp;have h4:=h.used;show usedF (eR s.1.files (ax s.1.files n))<=u;omega
 ·cases h0
theorem kL {k u:Nat} {s:Dsk × Int} (h:okN k u s.1) (n:Txt):okN k u (fO n s).1:=by
 refine to h (tw h fun h0=>?_)
 unfold cq at h0 ⊢;split at h0
 ·rename_i h1;rw[if_pos h1];obtain⟨hp,_⟩:=cd h1;refine⟨by rw[Bm];exact h.len,mt (pK _ _ _ fun _=>rfl) h.srt,?_⟩
  rw[jG hp];have h3:=sQ _ _ hp { s.1.files[ax s.1.files n] with sure:=s.1.files[ax s.1.files n].data.length }
  have h4:=h.used;simp only[] at h3 ⊢;omega
 ·cases h0
theorem iZ {k u:Nat} {s:Dsk × Int} (h:okN k u s.1) (n x:Txt):okN k (u+x.length) (fD n x s).1:=by
 refine to (h.up (Nat.le_refl _) (by omega)) (tw (h.up (Nat.le_refl _) (by omega)) fun h0=>?_)
 unfold bH at h0 ⊢;split at h0
 ·rename_i h1;split at h0
  ·cases h0
  ·rename_i h2;rw[if_pos h1,if_neg h2];obtain⟨hp,_⟩:=cd h1;refine⟨by rw[Bm];exact h.len,mt (pK _ _ _ fun _=>rfl) h.srt,?_⟩
   rw[jG hp];have h3:=sQ _ _ hp { s.1.files[ax s.1.files n] with data:=s.1.files[ax s.1.files n].data++x }
   have h4:=h.used;simp only[zA] at h3 ⊢;omega
 ·cases h0
theorem K1 {k u:Nat} {s:Dsk × Int} (h:okN k u s.1) (n t:Txt):okN k u (vH n t s).1:=by
 refine to h (tw h fun h0=>?_)
 unfold ii at h0 ⊢;split at h0
 ·rename_i h1;split at h0
  ·rename_i h2;rw[if_pos h1,if_pos h2];obtain⟨hp,_⟩:=cd h1;have hd:(eT s.1.files (ax s.1.files n) t).data=s.1.files[ax s.1.files n].data:=by unfold eT;rw[zE hp]
   have hu:=w6 _ _ hp;have hul:=h.used;have hln:=h.len;have hdl:=om _ _ hp;refine⟨Nat.le_trans (Du _ _) (by rw[hdl];omega),Cf (kQ h.srt _) _,?_⟩
   show usedF (iT (eR s.1.files (ax s.1.files n)) (eT s.1.files (ax s.1.files n) t))<=u;unfold iT;split
   ·rename_i h3;obtain⟨hp3,_⟩:=cd h3;have h5:=sQ _ _ hp3 (eT s.1.files (ax s.1.files n) t);rw[hd] at h5;omega
   ·rw[wM,hd];omega
  ·cases h0
 ·cases h0
theorem kP {k u:Nat} {s:Dsk × Int} (h:okN k u s.1) (n:Txt):okN k u (cN n s).1:=by
 unfold cN;split
 ·exact h
 ·split
  ·exact dL (s:=(s.1,0)) h n
  ·exact dL (s:=(s.1,0)) h n
def eH (s:Dsk × Int):Box:=.cells (s.1.l++[zI s.2])
theorem Pl (s:Dsk × Int) (g:Nat) (x:Txt) (f:Dsk->Dsk × Int) (hg:s.2=0->call g [.agg s.1.l,.one (.p 0 0)] [.cells [zS x]]=some (aP (f s.1),[.cells [zS x]])) :
  call 163 [.one (.p 0 0),.one (.f g [1])] [eH s,.cells [zS x]]=some (.tup [],[eH (uL s f),.cells [zS x]]):=by
 apply ah Og rfl;obtain⟨d,e⟩:=s;unfold uL;simp only at hg ⊢;by_cases h:e=0
 ·subst h;have h1:∀ D:Box,au call g [.agg d.l,.one (.p 1 0)] [D,.cells [zS x]]=some (aP (f d),[D,.cells [zS x]]):=fun D =>
   aE (ids:=[1]) rfl rfl rfl (hg rfl) rfl
  generalize f d=r at *;obtain⟨⟨f2,cp2,ar2,lf2,dn2⟩,e2⟩:=r;obtain⟨fl,cp,ar,lf,dn⟩:=d;simp only[aP,Dsk.l] at h1;(simp(disch:=first|decide|omega|(intros;exact aj rfl rfl)|simp only[aa]) only[aF,EC,eH,Dsk.l,↓h1,go_sem,seval,ak])
  simp[zR]
 ·obtain⟨fl,cp,ar,lf,dn⟩:=d;(simp(disch:=first|decide|omega|(intros;exact aj rfl rfl)|simp only[aa]) only[aF,EC,eH,Dsk.l,h,go_sem,seval,ak])
  simp[zR,h]
theorem Sn (s:Dsk × Int) (g:Nat) (f:Dsk->Dsk × Int) (hg:s.2=0->call g [.agg s.1.l] []=some (aP (f s.1),[])) :
  call 163 [.one (.p 0 0),.one (.f g [])] [eH s]=some (.tup [],[eH (uL s f)]):=by
 apply ah Og rfl;obtain⟨d,e⟩:=s;unfold uL;simp only at hg ⊢;by_cases h:e=0
 ·subst h;have h1:∀ H:Hp,au call g [.agg d.l] H=some (aP (f d),H):=fun H=>callIso_pure rfl (hg rfl) rfl
  generalize f d=r at *;obtain⟨⟨f2,cp2,ar2,lf2,dn2⟩,e2⟩:=r;obtain⟨fl,cp,ar,lf,dn⟩:=d;simp only[aP,Dsk.l] at h1;(simp(disch:=first|decide|omega|(intros;exact aj rfl rfl)|simp only[aa]) only[aF,EC,eH,Dsk.l,↓h1,go_sem,seval,ak])
  simp[zR]
 ·obtain⟨fl,cp,ar,lf,dn⟩:=d;(simp(disch:=first|decide|omega|(intros;exact aj rfl rfl)|simp only[aa]) only[aF,EC,eH,Dsk.l,h,go_sem,seval,ak])
  simp[zR,h]
theorem IG (d:Dsk) (hd:d.ok) (n:Txt):call 164 [.agg d.l,.one (.p 0 0)] [.cells [zS n]]=some (aP (am d (bh d.files n)),[.cells [zS n]]):=by
 apply ah P9 rfl;have h:=ji d hd n;generalize am d (bh d.files n)=r at *;obtain⟨⟨f2,cp2,ar2,lf2,dn2⟩,e2⟩:=r;obtain⟨fl,cp,ar,lf,dn⟩:=d;simp only[aP,Dsk.l] at h ⊢;(simp(disch:=first|decide|omega|(intros;exact aj rfl rfl)|simp only[aa]) only[aF,M3,h,go_sem,seval,ak])
 simp[zR]
theorem IV (d:Dsk) (hd:d.ok) (n:Txt):call 182 [.agg d.l,.one (.p 0 0)] [.cells [zS n]]=some (aP (am d (bO d.files n)),[.cells [zS n]]):=by
 apply ah Rj rfl;have h:=fK d hd n;generalize am d (bO d.files n)=r at *;obtain⟨⟨f2,cp2,ar2,lf2,dn2⟩,e2⟩:=r;obtain⟨fl,cp,ar,lf,dn⟩:=d;simp only[aP,Dsk.l] at h ⊢;(simp(disch:=first|decide|omega|(intros;exact aj rfl rfl)|simp only[aa]) only[aF,Ol,h,go_sem,seval,ak])
 simp[zR]
theorem OE (d:Dsk) (hd:d.ok) (n:Txt):call 183 [.agg d.l,.one (.p 0 0)] [.cells [zS n]]=some (aP (am d (cq d.files n)),[.cells [zS n]]):=by
 apply ah Ql rfl;have h:=mI d hd n;generalize am d (cq d.files n)=r at *;obtain⟨⟨f2,cp2,ar2,lf2,dn2⟩,e2⟩:=r;obtain⟨fl,cp,ar,lf,dn⟩:=d;simp only[aP,Dsk.l] at h ⊢;(simp(disch:=first|decide|omega|(intros;exact aj rfl rfl)|simp only[aa]) only[aF,Oi,h,go_sem,seval,ak])
 simp[zR]
theorem KA (d:Dsk) (hd:d.ok) (x:Txt) (hx:x.length<=1000000000000):call 167 [.agg d.l,.one (.p 0 0)] [.cells [zS x]]=some (aP (am d (bH d.files d.cap [110] x)),[.cells [zS x]]):=by
 apply ah P0 rfl;have h:=jf d hd [110] x hx;generalize am d (bH d.files d.cap [110] x)=r at *;obtain⟨⟨f2,cp2,ar2,lf2,dn2⟩,e2⟩:=r;obtain⟨fl,cp,ar,lf,dn⟩:=d;simp only[aP,Dsk.l] at h ⊢;(simp(disch:=first|decide|omega|(intros;exact aj rfl rfl)|simp only[aa]) only[aF,NK,h,go_sem,seval,ak])
 simp[zR]
theorem Mv (d:Dsk) (hd:d.ok):call 169 [.agg d.l] []=some (aP (am d (ii d.files [110] [109])),[]):=by
 apply ah QZ rfl;have h:=xV d hd [110] [109];generalize am d (ii d.files [110] [109])=r at *;obtain⟨⟨f2,cp2,ar2,lf2,dn2⟩,e2⟩:=r;obtain⟨fl,cp,ar,lf,dn⟩:=d;simp only[aP,Dsk.l] at h ⊢;(simp(disch:=first|decide|omega|(intros;exact aj rfl rfl)|simp only[aa]) only[aF,Oh,h,go_sem,seval,ak])
 try simp[zR]
theorem n7 (s:Dsk × Int) (hd:s.1.ok) (n:Txt):call 137 [.one (.p 0 0),vs n] [eH s]=some (.tup [],[eH (bL n s)]):=by
 apply ah Qm rfl;have h:au call 163 [.one (.p 0 0),.one (.f 164 [1])] [eH s,.cells [zS n]]=some (.tup [],[eH (bL n s),.cells [zS n]]) :=
  aE (ids:=[0,1]) rfl rfl rfl (Pl s _ n _ fun _=>IG s.1 hd n) rfl
 (simp(disch:=first|decide|omega|(intros;exact aj rfl rfl)|simp only[aa]) only[aF,Oo,↓h,go_sem,seval,ak])
 simp[zR,eH,Dsk.l]
theorem oO (s:Dsk × Int) (hd:s.1.ok) (n:Txt):call 166 [.one (.p 0 0),vs n] [eH s]=some (.tup [],[eH (dw n s)]):=by
 apply ah QP rfl;have h:au call 163 [.one (.p 0 0),.one (.f 182 [1])] [eH s,.cells [zS n]]=some (.tup [],[eH (dw n s),.cells [zS n]]) :=
  aE (ids:=[0,1]) rfl rfl rfl (Pl s _ n _ fun _=>IV s.1 hd n) rfl
 (simp(disch:=first|decide|omega|(intros;exact aj rfl rfl)|simp only[aa]) only[aF,NM,↓h,go_sem,seval,ak])
 simp[zR,eH,Dsk.l]
theorem A6 (s:Dsk × Int) (hd:s.1.ok) (n:Txt):call 168 [.one (.p 0 0),vs n] [eH s]=some (.tup [],[eH (fO n s)]):=by
 apply ah Rl rfl;have h:au call 163 [.one (.p 0 0),.one (.f 183 [1])] [eH s,.cells [zS n]]=some (.tup [],[eH (fO n s),.cells [zS n]]) :=
  aE (ids:=[0,1]) rfl rfl rfl (Pl s _ n _ fun _=>OE s.1 hd n) rfl
 (simp(disch:=first|decide|omega|(intros;exact aj rfl rfl)|simp only[aa]) only[aF,O0,↓h,go_sem,seval,ak])
 simp[zR,eH,Dsk.l]
theorem oH (s:Dsk × Int) (hd:s.1.ok) (n:Txt):call 139 [.one (.p 0 0),vs n] [eH s]=some (.tup [],[eH (cN n s)]):=by
 apply ah Qi rfl;obtain⟨d,e⟩:=s;unfold cN;simp only at hd ⊢;by_cases h9:e=9
 ·subst h9;have h:au call 166 [.one (.p 0 0),vs n] [eH (d,0)]=some (.tup [],[eH (dw n (d,0))]) :=
   aE (ids:=[0]) rfl rfl rfl (oO (d,0) hd n) rfl
  generalize dw n (d,0)=r at *;obtain⟨⟨f2,cp2,ar2,lf2,dn2⟩,e2⟩:=r;obtain⟨fl,cp,ar,lf,dn⟩:=d;simp only[eH,Dsk.l,List.cons_append,List.nil_append] at h;by_cases h0:e2=0
  ·subst h0;(simp(disch:=first|decide|omega|(intros;exact aj rfl rfl)|simp only[aa]) only[aF,IX,eH,Dsk.l,↓h,go_sem,seval,ak])
   simp[zR]
  ·(simp(disch:=first|decide|omega|(intros;exact aj rfl rfl)|simp only[aa]) only[aF,IX,eH,Dsk.l,↓h,h0,go_sem,seval,ak])
   simp[zR,h0]
 ·obtain⟨fl,cp,ar,lf,dn⟩:=d;(simp(disch:=first|decide|omega|(intros;exact aj rfl rfl)|simp only[aa]) only[aF,IX,eH,Dsk.l,h9,go_sem,seval,ak])
  simp[zR,h9]
def bR (m:Man) (s:Dsk × Int):Dsk × Int :=
 let s1:=if s.2=0 then(s.1,(bC m).2) else s
 let s2:=if(bZ s1.1.files [110]).2=0 then dw [110] s1 else s1
 let s3:=bL [110] s2
 if s3.2≠0 then s3 else vH [110] [109] (fO [110] (cN [110] (fD [110] (bC m).1 s3)))
theorem kE (m:Man):(bC m).1.length<=800:=by
 unfold bC;split
 ·rename_i h;have:=lK h;unfold ct;have h9:=du (n:=(fi m).length) (by omega)
  show(aY (fi m)).length<=800;rw[gg];omega
 ·simp
theorem gS {k u:Nat} {s:Dsk × Int} (h:okN k u s.1) (m:Man):okN (k+1) (u+800) (bR m s).1:=by
 unfold bR;have h1:okN k u (if s.2=0 then(s.1,(bC m).2) else s).1:=by split <;> exact h
 generalize (if s.2=0 then(s.1,(bC m).2) else s)=s1 at *
 have h2:okN k u (if(bZ s1.1.files [110]).2=0 then dw [110] s1 else s1).1:=by
  split
  ·exact dL h1 _
  ·exact h1
 simp only[];generalize (if(bZ s1.1.files [110]).2=0 then dw [110] s1 else s1)=s2 at *
 have h3:=dY h2 [110];split
 ·exact h3.up (Nat.le_refl _) (by omega)
 ·exact K1 (kL (kP ((iZ h3 [110] (bC m).1).up (Nat.le_refl _) (by have:=kE m;omega)) _) _) _ _
theorem DR (d:Dsk) (e:Int) (te:Int) (tx:Txt) {k u:Nat} (hd:okN k u d) (hk:k<=900000) (hu:u<=900000000000) (htx:tx.length<=800) (ver size sum:Int) (segs:List Int)
  (hp:call 165 [.agg [zI ver,.d (.l (segs.map eI)),zI size,zW sum]] []=some (.tup [(false,[zS tx]),(false,[zI te])],[]))
  (s1:Dsk × Int) (hs1:s1=(if e=0 then(d,te) else(d,e))) (s2:Dsk × Int) (hs2:s2=(if(bZ s1.1.files [110]).2=0 then dw [110] s1 else s1)) :
  call 138 [.one (.p 0 0),.agg [zI ver,.d (.l (segs.map eI)),zI size,zW sum]] [eH (d,e)] =
   some (.tup [],[eH (if(bL [110] s2).2≠0 then bL [110] s2 else vH [110] [109] (fO [110] (cN [110] (fD [110] tx (bL [110] s2)))))]):=by
 have k1:okN k u s1.1:=by rw[hs1];split <;> exact hd
 have k2:okN k u s2.1:=by
  rw[hs2];split
  ·exact dL k1 _
  ·exact k1
 have k3:=dY k2 [110];obtain⟨s3,hs3⟩:∃ s3,s3=bL [110] s2:=⟨_,rfl⟩;have k4:=iZ k3 [110] tx;rw[<- hs3] at k3 k4 ⊢;obtain⟨s4,hs4⟩:∃ s4,s4=fD [110] tx s3:=⟨_,rfl⟩;rw[<- hs4] at k4 ⊢;have k5:=kP k4 [110];obtain⟨s5,hs5⟩:∃ s5,s5=cN [110] s4:=⟨_,rfl⟩;rw[<- hs5] at k5 ⊢;have k6:=kL k5 [110];obtain⟨s6,hs6⟩:∃ s6,s6=fO [110] s5:=⟨_,rfl⟩;rw[<- hs6] at k6 ⊢;obtain⟨s7,hs7⟩:∃ s7,s7=vH [110] [109] s6:=⟨_,rfl⟩;rw[<- hs7];have hr:=o5 s1.1 (Nat.le_trans k1.len (by omega)) k1.srt [110]
 have q1:∀ M T:Box,au call 166 [.one (.p 0 0),vs [110]] [eH s1,M,T]=some (.tup [],[eH (dw [110] s1),M,T]):=fun M T=>aE (ids:=[0]) rfl rfl rfl (oO s1 (k1.ok (by omega) (by omega)) _) rfl
 have q2:∀ M T:Box,au call 137 [.one (.p 0 0),vs [110]] [eH s2,M,T]=some (.tup [],[eH s3,M,T]):=fun M T=>by rw[hs3];exact aE (ids:=[0]) rfl rfl rfl (n7 s2 (k2.ok (by omega) (by omega)) _) rfl
 have q3:∀ M:Box,au call 163 [.one (.p 0 0),.one (.f 167 [2])] [eH s3,M,.cells [zS tx]]=some (.tup [],[eH s4,M,.cells [zS tx]]):=fun M=>by
  rw[hs4];exact aE (ids:=[0,2]) rfl rfl rfl (Pl s3 _ tx _ fun _=>KA s3.1 (k3.ok (by omega) (by omega)) tx (by omega)) rfl
 have q4:∀ M T:Box,au call 139 [.one (.p 0 0),vs [110]] [eH s4,M,T]=some (.tup [],[eH s5,M,T]):=fun M T=>by rw[hs5];exact aE (ids:=[0]) rfl rfl rfl (oH s4 (k4.ok (by omega) (by omega)) _) rfl
 have q5:∀ M T:Box,au call 168 [.one (.p 0 0),vs [110]] [eH s5,M,T]=some (.tup [],[eH s6,M,T]):=fun M T=>by rw[hs6];exact aE (ids:=[0]) rfl rfl rfl (A6 s5 (k5.ok (by omega) (by omega)) _) rfl
 have q6:∀ M T:Box,au call 163 [.one (.p 0 0),.one (.f 169 [])] [eH s6,M,T]=some (.tup [],[eH s7,M,T]):=fun M T=>by
  rw[hs7];exact aE (ids:=[0]) rfl rfl rfl (Sn s6 _ _ fun _=>Mv s6.1 (k6.ok (by omega) (by omega))) rfl
 clear hs3 hs4 hs5 hs6 hs7 k2 k3 k4 k5 k6;obtain⟨d3,e3⟩:=s3;apply ah Q8 rfl;by_cases he:e=0
 ·rw[if_pos he] at hs1;subst hs1;subst he;by_cases hrd:(bZ d.files [110]).2=0
  ·simp only[] at hs2 hr;rw[if_pos hrd] at hs2;rw[<- hs2] at q1;rw[hrd] at hr;simp only[eH,Dsk.l,List.cons_append,List.nil_append] at hr q1 q2 q3 q4 q5 q6;by_cases h3:e3=0
   ·subst h3;(simp(disch:=first|decide|omega|(intros;exact aj rfl rfl)|simp only[aa]) only[aF,wl,eH,Dsk.l,hp,hr,↓q1,↓q2,↓q3,↓q4,↓q5,↓q6,go_sem,seval,ak])
    try simp[zR,eH,Dsk.l]
   ·(simp(disch:=first|decide|omega|(intros;exact aj rfl rfl)|simp only[aa]) only[aF,wl,eH,Dsk.l,hp,hr,↓q1,↓q2,↓q3,↓q4,↓q5,↓q6,h3,go_sem,seval,ak])
    try simp[zR,eH,Dsk.l,h3]
  ·simp only[] at hs2 hr;rw[if_neg hrd] at hs2;subst hs2;simp only[eH,Dsk.l,List.cons_append,List.nil_append] at hr q1 q2 q3 q4 q5 q6;by_cases h3:e3=0
   ·subst h3;(simp(disch:=first|decide|omega|(intros;exact aj rfl rfl)|simp only[aa]) only[aF,wl,eH,Dsk.l,hp,hr,hrd,↓q2,↓q3,↓q4,↓q5,↓q6,go_sem,seval,ak])
    try simp[zR,eH,Dsk.l]
   ·(simp(disch:=first|decide|omega|(intros;exact aj rfl rfl)|simp only[aa]) only[aF,wl,eH,Dsk.l,hp,hr,hrd,↓q2,↓q3,↓q4,↓q5,↓q6,h3,go_sem,seval,ak])
    try simp[zR,eH,Dsk.l,h3]
 ·rw[if_neg he] at hs1;subst hs1;by_cases hrd:(bZ d.files [110]).2=0
  ·simp only[] at hs2 hr;rw[if_pos hrd] at hs2;rw[<- hs2] at q1;rw[hrd] at hr;simp only[eH,Dsk.l,List.cons_append,List.nil_append] at hr q1 q2 q3 q4 q5 q6;by_cases h3:e3=0
   ·subst h3;(simp(disch:=first|decide|omega|(intros;exact aj rfl rfl)|simp only[aa]) only[aF,wl,eH,Dsk.l,hp,hr,↓q1,↓q2,↓q3,↓q4,↓q5,↓q6,go_sem,seval,ak])
    try simp[zR,eH,Dsk.l]
   ·(simp(disch:=first|decide|omega|(intros;exact aj rfl rfl)|simp only[aa]) only[aF,wl,eH,Dsk.l,hp,hr,↓q1,↓q2,↓q3,↓q4,↓q5,↓q6,h3,go_sem,seval,ak])
    try simp[zR,eH,Dsk.l,h3]
  ·simp only[] at hs2 hr;rw[if_neg hrd] at hs2;subst hs2;simp only[eH,Dsk.l,List.cons_append,List.nil_append] at hr q1 q2 q3 q4 q5 q6;by_cases h3:e3=0
   ·subst h3;(simp(disch:=first|decide|omega|(intros;exact aj rfl rfl)|simp only[aa]) only[aF,wl,eH,Dsk.l,hp,hr,hrd,↓q2,↓q3,↓q4,↓q5,↓q6,go_sem,seval,ak])
    try simp[zR,eH,Dsk.l]
   ·(simp(disch:=first|decide|omega|(intros;exact aj rfl rfl)|simp only[aa]) only[aF,wl,eH,Dsk.l,hp,hr,hrd,↓q2,↓q3,↓q4,↓q5,↓q6,h3,go_sem,seval,ak])
    try simp[zR,eH,Dsk.l,h3]
theorem sS (s:Dsk × Int) {k u:Nat} (hd:okN k u s.1) (hk:k<=900000) (hu:u<=900000000000) (m:Man) (hm:m.ok):call 138 [.one (.p 0 0),.agg m.l] [eH s]=some (.tup [],[eH (bR m s)]):=by
 have hp:=yq m hm;have hpl:=kE m;obtain⟨d,e⟩:=s;have h:=DR d e (bC m).2 (bC m).1 hd hk hu hpl m.ver m.size m.sum m.segs hp _ rfl _ rfl;exact h
structure Seg where
 base:Int
 n:Int
 size:Int
 deriving DecidableEq
def Seg.enc (e:Seg):List D:=[.i .i64 e.base,.i .i64 e.n,.i .i64 e.size]
theorem Seg.len (e:Seg):e.enc.length=3:=Eq.trans rfl rfl
theorem Seg.tk (e:Seg):e.enc.take 3=e.enc:=Eq.trans rfl rfl
theorem Seg.tkL (e:Seg):(e.enc.map L.d).take 3=e.enc.map L.d:=Eq.trans rfl rfl
theorem Seg.at0 (e:Seg):e.enc[0]?=some (.i .i64 e.base):=Eq.trans rfl rfl
def Seg.ok (e:Seg):Prop:=(-9223372036854775808<=e.base∧e.base<9223372036854775808)∧(-9223372036854775808<=e.n∧e.n<9223372036854775808)∧(-9223372036854775808<=e.size∧e.size<9223372036854775808)
def Seg.ty:List Ty:=[.i .i64,.i .i64,.i .i64]
structure Sto where
 disk:Dsk
 ver:Int
 segs:List Seg
 next:Int
 sure:Int
 size:Int
 sum:Int
def Sto.l (s:Sto):List L:=s.disk.l++[zI s.ver,.d (.l (s.segs.map Seg.enc)),zI s.next,zI s.sure,zI s.size,zW s.sum]
def Sto.man (s:Sto):Man:=⟨s.ver,s.segs.map Seg.base,s.size,s.sum⟩
def dA (r:Sto × Int):V:=.tup [(true,r.1.l),(false,[zI r.2])]
theorem jP (s:Sto) (g:Seg) (hl:s.segs.length<=1000000) (hg:s.segs.getLast?=some g):call 100 [.agg s.l] []=some (.agg (g.enc.map .d),[]):=by
 apply ah Qk rfl;obtain⟨⟨fl,cp,ar,lf,dn⟩,ver,segs,next,sure,size,sum⟩:=s;simp only at hg hl;have h0:0<segs.length:=by cases segs <;> simp_all
 have h2:((segs.length:Int)-1).toNat=segs.length-1:=by omega
 have g1:(segs.map Seg.enc)[segs.length-1]?=some g.enc:=by rw[zG,<- List.getLast?_eq_getElem?,hg];rfl
 (simp(disch:=first|decide|omega|(intros;exact aj rfl rfl)|simp only[aa]) only[OR,Sto.l,Dsk.l,h2,g1,Seg.len,Seg.tk,Seg.tkL,go_sem,seval,ak])
 try simp[trim]
theorem mZ (s:Sto):call 119 [.agg s.l] []=some (vi (match s.segs with|[]=>0|g::_=>g.base),[]):=by
 apply ah QY rfl;obtain⟨⟨fl,cp,ar,lf,dn⟩,ver,segs,next,sure,size,sum⟩:=s;cases segs with
 | nil=>(simp(disch:=first|decide|omega|(intros;exact aj rfl rfl)|simp only[aa]) only[LQ,Sto.l,Dsk.l,go_sem,seval,ak])
 | cons g r =>
  (simp(disch:=first|decide|omega|(intros;exact aj rfl rfl)|simp only[aa]) only[LQ,Sto.l,Dsk.l,Seg.len,Seg.at0,go_sem,seval,ak])
  try simp[trim]
def Nl:List Seg->Int->Nat->Seg->Seg
 | l,off,0,z=>l.headD z
 | l,off,k+1,z=>match l[k+1]? with|some g=>if g.base > off then Nl l off k z else g|none=>z
def Sto.hld (s:Sto) (off:Int):Seg:=Nl s.segs off (s.segs.length-1) ⟨0,0,0⟩
structure okS (k u:Nat) (s:Sto):Prop where
 dsk:okN k u s.disk
 len:1<=s.segs.length∧s.segs.length<=64
 seg:∀ g∈s.segs,(0<=g.base∧g.base<=1099511627776)∧(0<=g.n∧g.n<=u)∧(0<=g.size∧g.size<=u)
 next:0<=s.next∧s.next<=1099511627776
 ver:0<=s.ver∧s.ver<=u
 sum:0<=s.sum∧s.sum<4294967296
def Sto.last (s:Sto):Seg:=s.segs.getLastD ⟨0,0,0⟩
theorem pN {s:Sto} (h:1<=s.segs.length):s.segs.getLast?=some s.last:=by
 unfold Sto.last;rw[List.getLastD_eq_getLast?];cases hc:s.segs.getLast? with
 | some g=>rfl
 | none=>rw[List.getLast?_eq_none_iff] at hc;rw[hc] at h;exact absurd h (by decide)
theorem ox {s:Sto} (h:1<=s.segs.length):s.last∈s.segs:=List.mem_of_getLast? (pN h)
def fileN (n:Int):Txt:=fc 115 n.toNat
theorem ky {n:Int} (h:0<=n∧n<=1099511627776):call 103 [vi n] []=some (vs (fileN n),[]):=by
 have:=GB n.toNat (by omega)
 have e:((n.toNat:Nat):Int)=n:=by omega
 rw[e] at this;exact this
def aT (s:Sto):Sto × Int :=
 let r:=am s.disk (cq s.disk.files (fileN s.last.base))
 ({ s with disk:=r.1,sure:=if r.2=0 then s.next else s.sure },r.2)
theorem pi {k u:Nat} (s:Sto) (h:okS k u s) (hk:k<=800000) (hu:u<=800000000000):call 85 [.agg s.l] []=some (dA (aT s),[]):=by
 apply ah Sw rfl;have q1:=jP s s.last (by have:=h.len;omega) (pN h.len.1)
 have q2:=ky (h.seg _ (ox h.len.1)).1;have q3:=mI s.disk (h.dsk.ok (by omega) (by omega)) (fileN s.last.base)
 unfold aT;simp only[];generalize am s.disk (cq s.disk.files (fileN s.last.base))=r at *;generalize s.last=g at *;obtain⟨⟨fl,cp,ar,lf,dn⟩,ver,segs,next,sure,size,sum⟩:=s;obtain⟨⟨f2,cp2,ar2,lf2,dn2⟩,e2⟩:=r;obtain⟨b,n,z⟩:=g;simp only[Sto.l,Dsk.l,Seg.enc,aP,List.cons_append,List.nil_append,List.map_cons,List.map_nil] at q1 q2 q3 ⊢;by_cases c:e2=0
 ·subst c;(simp(disch:=first|decide|omega|(intros;exact aj rfl rfl)|simp only[aa]) only[aF,PN,q1,q2,q3,dA,Sto.l,Dsk.l,go_sem,seval,ak])
  try simp[trim]
 ·(simp(disch:=first|decide|omega|(intros;exact aj rfl rfl)|simp only[aa]) only[aF,PN,q1,q2,q3,c,dA,Sto.l,Dsk.l,go_sem,seval,ak])
  try simp[trim,c]
def j4 (segs:List Seg) (i:Nat):List (List D):=(segs.take i).map (fun g=>eI g.base)++List.replicate (segs.length-i) (eI 0)
theorem Eg (segs:List Seg) (i:Nat) (h:i<=segs.length):(j4 segs i).length=segs.length:=by simp[j4];omega
theorem Hw (segs:List Seg) (i:Nat) (h:i<segs.length):(j4 segs i)[i]?=some (eI 0):=by
 unfold j4;rw[List.getElem?_append_right (by simp;omega),List.getElem?_replicate]
 rw[if_pos];simp;omega
theorem CT (segs:List Seg) (i:Nat) (h:i<segs.length):(j4 segs i).set i (eI segs[i].base)=j4 segs (i+1):=by
 unfold j4;have e:segs.length-i=(segs.length-(i+1))+1:=by omega
 rw[List.set_append_right _ _ (by simp;omega),e,List.replicate_succ,zO h,List.map_append]
 have e2:i-((segs.take i).map fun g=>eI g.base).length=0:=by simp;omega
 rw[e2];simp
theorem qZ (s:Sto) (hl:s.segs.length<=1000000):call 117 [.agg s.l] []=some (.agg s.man.l,[]):=by
 apply ah Qy rfl;obtain⟨⟨fl,cp,ar,lf,dn⟩,ver,segs,next,sure,size,sum⟩:=s;simp only at hl;unfold Sto.man;(simp(disch:=first|decide|omega|(intros;exact aj rfl rfl)|simp only[aa]) only[M9,Sto.l,Dsk.l,Man.l,go_sem,seval,ak,bI,A.kind,A.xs,aD,A.isN])
 refine aB (m:=0) (σ:=Nat) (fun i=>segs.length-i) (fun i=>i<=segs.length) (fun i=>[V.one (.p 0 0),V.one (.p 1 0),vl (segs.map Seg.enc),vi segs.length,vi i])
  (fun i=>[.cells [zI 0,.ns,zI 0,zW 0],.cells [zI ver,.sl 2 1 0 segs.length,zI size,zW sum],.arr 1 (j4 segs i) 0]) (fun _=>(V.agg [zI ver,.d (.l ((segs.map Seg.base).map eI)),zI size,zW sum],[])) ?_ 0 (zP _) _ _ ?_
 rotate_left
 ·have e:j4 segs 0=List.replicate segs.length [D.i .i64 0]:=by simp[j4,eI]
  rw[e];exact cm
 intro i hi R hR;have hln:=Eg segs i hi;by_cases c:i<segs.length
 ·have g1:(segs.map Seg.enc)[i]?=some segs[i].enc:=by simp[c]
  have g2:=Hw segs i c;have g3:=CT segs i c;have hR':=hR (i+1) (by omega) (by omega)
  rw[<- g3] at hR';generalize j4 segs i=Q at *;generalize segs[i]=g at *;obtain⟨b,n,z⟩:=g;simp only[eI] at g2 hR';(simp(disch:=first|decide|omega|(intros;exact aj rfl rfl)|simp only[aa]) only[yY,c,g1,g2,Seg.enc,hln,go_sem,seval,ak])
  exact hR' _ _ cm
 ·have e:i=segs.length:=by omega
  subst e;have e2:j4 segs segs.length=segs.map fun g=>eI g.base:=by simp[j4]
  rw[e2] at hln ⊢;have e3:(segs.map Seg.base).map eI=segs.map fun g=>eI g.base:=by simp
  rw[e3];generalize (segs.map fun g=>eI g.base)=Q at *
  have e4:Q.take segs.length=Q:=zL (by omega)
  (simp(disch:=first|decide|omega|(intros;exact aj rfl rfl)|simp only[aa]) only[yY,e4,hln,go_sem,seval,ak])
  try simp[zR]
def aI (d:Dsk):Sto × Int :=
 let s1:=bL (fileN 0) (d,0)
 let s2:=if s1.2=0 then bR ⟨1,[0],0,0⟩ s1 else s1
 if s2.2=0 then(⟨s2.1,1,[⟨0,0,0⟩],0,0,0,0⟩,0) else(⟨s2.1,0,[],0,0,0,0⟩,s2.2)
def jB (s:Sto):Sto:={ s with ver:=s.ver+1,segs:=s.segs++[⟨s.next,0,0⟩] }
def dW (s:Sto):Dsk × Int :=
 let c:=bL (fileN s.next) (s.disk,0)
 if c.2=0 then cN (fileN s.next) (bR (jB s).man c) else c
def co (s:Sto):Sto × Int :=
 if 64<=s.segs.length then(s,9) else
  if(aT s).2≠0 then aT s else
   if(dW (aT s).1).2=0 then({ jB (aT s).1 with disk:=(dW (aT s).1).1 },0)
   else({ (aT s).1 with disk:=(dW (aT s).1).1 },(dW (aT s).1).2)
theorem j5 {k u:Nat} {s:Sto} (h:okS k u s):okS k u (aT s).1:=by
 refine⟨?_,h.len,h.seg,h.next,h.ver,h.sum⟩;have:=kL (s:=(s.disk,0)) h.dsk (fileN s.last.base);exact this
theorem uw {k u:Nat} (s:Sto) (h:okS k u s) (hk:k<=800000) (hu:u<=800000000000):call 101 [.agg s.l] []=some (dA (co s),[]):=by
 have q1:=pi s h hk hu;have h1:=j5 h;have hsl:(aT s).1.segs=s.segs:=rfl;apply ah PW rfl;unfold co;by_cases c0:64<=s.segs.length
 ·rw[if_pos c0];obtain⟨⟨fl,cp,ar,lf,dn⟩,ver,segs,next,sure,size,sum⟩:=s;simp only at c0;have c1:(64:Int)<=segs.length:=by omega
  (simp(disch:=first|decide|omega|(intros;exact aj rfl rfl)|simp only[aa]) only[aF,DP,c1,dA,Sto.l,Dsk.l,go_sem,seval,ak])
  try simp[trim]
 ·rw[if_neg c0];have c1:¬ (64:Int)<=s.segs.length:=by omega
  rw[<- hsl] at c1;generalize aT s=r at *;obtain⟨s1,e1⟩:=r;simp only at q1 h1 hsl c1 ⊢;by_cases c2:e1=0
  ·subst c2;rw[if_neg (by simp)]
   have q2:=ky h1.next;have q3:=n7 (s1.disk,0) (h1.dsk.ok (by omega) (by omega)) (fileN s1.next)
   have k1:=dY (s:=(s1.disk,0)) h1.dsk (fileN s1.next);have q4:=qZ (jB s1) (by have:=h1.len;show(s1.segs++[_]).length<=_;simp;omega)
   have q5:=fun c (h:okN (k+1) u c.1)=>sS c h (by omega) (by omega) (jB s1).man ⟨by have:=h1.len;show((s1.segs++[_]).map _).length<=_;simp;omega,h1.sum⟩
   have q5:=q5 _ k1;have k2:=gS k1 (jB s1).man;have q6:=oH _ (k2.ok (by omega) (by omega)) (fileN s1.next)
   have k3:=kP k2 (fileN s1.next);unfold dW;simp only[];generalize bL (fileN s1.next) (s1.disk,0)=c at *;generalize bR (jB s1).man c=d at *;generalize cN (fileN s1.next) d=t at *;generalize fileN s1.next=N at *;obtain⟨⟨fl,cp,ar,lf,dn⟩,ver,segs,next,sure,size,sum⟩:=s;obtain⟨⟨fl1,cp1,ar1,lf1,dn1⟩,ver1,segs1,next1,sure1,size1,sum1⟩:=s1;obtain⟨⟨fl2,cp2,ar2,lf2,dn2⟩,e2⟩:=c;obtain⟨⟨fl3,cp3,ar3,lf3,dn3⟩,e3⟩:=d;obtain⟨⟨fl4,cp4,ar4,lf4,dn4⟩,e4⟩:=t;simp only at hsl;subst hsl;have hver:=h1.ver;have hlen:=h1.len;simp only[eH,Dsk.l,Sto.l,Sto.man,jB,Man.l,dA,List.cons_append,List.nil_append,List.map_cons,List.map_nil,List.map_append,Seg.enc] at q1 q2 q3 q4 q5 q6 c1 hver hlen ⊢;have hok:aR 3 (segs1.map Seg.enc)=true:=aV Seg.len segs1;have htk:(segs1.map Seg.enc).take segs1.length=segs1.map Seg.enc:=zL (by simp)
   have hb:=t9 (Nat.le_refl segs1.length);have r3:∀ P Q R T:Box,au call 137 [.one (.p 4 0),vs N] [P,Q,R,T,.cells [.d (.l (fl1.map Fil.enc)),zI cp1,zB ar1,zI lf1,zB dn1,zI 0]]=some (.tup [],[P,Q,R,T,.cells [.d (.l (fl2.map Fil.enc)),zI cp2,zB ar2,zI lf2,zB dn2,zI e2]]):=fun P Q R T =>
    aE (ids:=[4]) rfl rfl rfl q3 rfl
   have r5:∀ P Q R T:Box,au call 138 [.one (.p 4 0),.agg [zI (ver1+1),.d (.l ((segs1.map Seg.base).map eI++[eI next1])),zI size1,zW sum1]] [P,Q,R,T,.cells [.d (.l (fl2.map Fil.enc)),zI cp2,zB ar2,zI lf2,zB dn2,zI e2]]=some (.tup [],[P,Q,R,T,.cells [.d (.l (fl3.map Fil.enc)),zI cp3,zB ar3,zI lf3,zB dn3,zI e3]]):=fun P Q R T =>
    aE (ids:=[4]) rfl rfl rfl q5 rfl
   have r6:∀ P Q R T:Box,au call 139 [.one (.p 4 0),vs N] [P,Q,R,T,.cells [.d (.l (fl3.map Fil.enc)),zI cp3,zB ar3,zI lf3,zB dn3,zI e3]]=some (.tup [],[P,Q,R,T,.cells [.d (.l (fl4.map Fil.enc)),zI cp4,zB ar4,zI lf4,zB dn4,zI e4]]):=fun P Q R T =>
    aE (ids:=[4]) rfl rfl rfl q6 rfl
   by_cases c3:e2=0
   ·subst c3;by_cases c4:e4=0
    ·subst c4;(simp(disch:=first|decide|omega|(intros;exact aj rfl rfl)|simp only[aa]) only[aF,DP,q1,c1,hver,q2,hok,htk,hb,↓r3,q4,↓r5,↓r6,go_sem,seval,ak,bI,A.kind,A.xs,aD,A.isN])
     try simp[trim]
     try rfl
    ·(simp(disch:=first|decide|omega|(intros;exact aj rfl rfl)|simp only[aa]) only[aF,DP,q1,c1,hver,q2,hok,htk,hb,↓r3,q4,↓r5,↓r6,c4,go_sem,seval,ak,bI,A.kind,A.xs,aD,A.isN])
     try simp[trim,c4]
   ·(simp(disch:=first|decide|omega|(intros;exact aj rfl rfl)|simp only[aa]) only[aF,DP,q1,c1,hver,q2,hok,htk,hb,↓r3,c3,go_sem,seval,ak,bI,A.kind,A.xs,aD,A.isN])
    try simp[trim,c3]
  ·rw[if_pos c2];obtain⟨⟨fl,cp,ar,lf,dn⟩,ver,segs,next,sure,size,sum⟩:=s;obtain⟨⟨fl1,cp1,ar1,lf1,dn1⟩,ver1,segs1,next1,sure1,size1,sum1⟩:=s1;simp only at hsl;subst hsl;simp only[Dsk.l,Sto.l,dA,List.cons_append,List.nil_append] at q1 c1 ⊢;(simp(disch:=first|decide|omega|(intros;exact aj rfl rfl)|simp only[aa]) only[aF,DP,q1,c1,c2,go_sem,seval,ak,bI,A.kind,A.xs,aD,A.isN])
   try simp[trim]
theorem okS.up {k u k' u':Nat} {s:Sto} (h:okS k u s) (hk:k<=k') (hu:u<=u'):okS k' u' s :=
 ⟨h.dsk.up hk hu,h.len,fun g hg=>by have:=h.seg g hg;omega,h.next,by have:=h.ver;omega,h.sum⟩
theorem Fx {k u:Nat} {s:Sto} (h:okS k u s):okN (k+2) (u+800) (dW s).1:=by
 unfold dW;simp only[];have k1:=dY (s:=(s.disk,0)) h.dsk (fileN s.next);split
 ·exact kP (gS k1 _) _
 ·exact k1.up (by omega) (by omega)
theorem rI {k u:Nat} {s:Sto} (h:okS k u s):okS (k+2) (u+800) (co s).1:=by
 unfold co;have h1:=j5 h;have hsl:(aT s).1.segs=s.segs:=rfl;split
 ·exact h.up (by omega) (by omega)
 ·rename_i c;split
  ·exact h1.up (by omega) (by omega)
  ·have hd:=Fx h1;generalize (aT s).1=s1 at *;have h2:=h1.up (k':=k+2) (u':=u+800) (by omega) (by omega)
   split
   ·refine⟨hd,?_,?_,h2.next,?_,h2.sum⟩
    ·show 1<=(s1.segs++[_]).length∧(s1.segs++[_]).length<=64;rw[zA,List.length_singleton,hsl];omega
    ·intro g hg;rcases zX.1 hg with hg|hg
     ·exact h2.seg g hg
     ·rw[zV.1 hg];exact⟨h1.next,by simp only[];omega,by simp only[];omega⟩
    ·show 0<=s1.ver+1∧s1.ver+1<=_;have:=h1.ver;omega
   ·exact⟨hd,h2.len,h2.seg,h2.next,h2.ver,h2.sum⟩
def dS (r:Rec):Txt × Int:=if whyF r=0 then(aY (bE r),0) else([],whyF r)
theorem yD (r:Rec):(dS r).1.length<=90:=by
 unfold dS;split
 ·rename_i h;have hb:=(kI.1 h).blen;have h9:=du (n:=(bE r).length) (by omega)
  show(aY (bE r)).length<=90;rw[gg];omega
 ·simp
def y6 (s:Sto) (n:Nat):Sto:={ s with segs:=s.segs.dropLast++[⟨s.last.base,s.last.n+1,s.last.size+n⟩],next:=s.next+1 }
def fN (t:Sto) (x:Txt):Sto × Int :=
 let d:=am t.disk (bH t.disk.files t.disk.cap (fileN t.last.base) x)
 if d.2≠0 then({ t with disk:=d.1 },d.2) else({ y6 t x.length with disk:=d.1 },0)
def eg (s:Sto) (seg:Int) (r:Rec):Sto × Int :=
 if(dS r).2≠0∨r.at_≠s.next then(s,1) else
  if 1099511627776<=s.next then(s,13) else
   if seg<=s.last.size then(if(co s).2≠0 then co s else fN (co s).1 (dS r).1) else fN s (dS r).1
theorem BW {k u:Nat} {s:Sto} (h:okS k u s) (x:Txt) (hn:s.next<1099511627776):okS k (u+x.length+1) (fN s x).1:=by
 have h1:=iZ (s:=(s.disk,0)) h.dsk (fileN s.last.base) x;have h2:okN k (u+x.length+1) (am s.disk (bH s.disk.files s.disk.cap (fileN s.last.base) x)).1:=okN.up (k:=k) (u:=u+x.length) h1 (Nat.le_refl _) (by omega)
 have h3:=h.up (k':=k) (u':=u+x.length+1) (Nat.le_refl _) (by omega)
 unfold fN;simp only[];split
 ·exact⟨h2,h3.len,h3.seg,h3.next,h3.ver,h3.sum⟩
 ·refine⟨h2,?_,?_,?_,h3.ver,h3.sum⟩
  ·show 1<=(s.segs.dropLast++[_]).length∧(s.segs.dropLast++[_]).length<=64;have:=h.len;rw[zA,List.length_singleton,List.length_dropLast];omega
  ·intro g hg;rcases zX.1 hg with hg|hg
   ·exact h3.seg g (List.dropLast_subset _ hg)
   ·rw[zV.1 hg];have:=h.seg _ (ox h.len.1);exact⟨this.1,by simp only[];omega,by simp only[];omega⟩
  ·show 0<=s.next+1∧s.next+1<=_;have:=h.next;omega
theorem Ck {k u:Nat} {s:Sto} (h:okS k u s) (seg:Int) (r:Rec):okS (k+2) (u+1000) (eg s seg r).1:=by
 have hl:=yD r;unfold eg;have hr:=rI h;split
 ·exact h.up (by omega) (by omega)
 ·split
  ·exact h.up (by omega) (by omega)
  ·rename_i c;split
   ·split
    ·exact hr.up (by omega) (by omega)
    ·have hn:(co s).1.next=s.next:=by
      unfold co aT jB;split
      ·rfl
      ·split
       ·rfl
       ·split <;> rfl
     exact(BW hr _ (by rw[hn];omega)).up (by omega) (by omega)
   ·exact(BW h _ (by omega)).up (by omega) (by omega)
end Go.Proofs.YtgoifbjgmgbihaaGreat
