import Derived.Test.YtgoifbjgmgbihaaGreatT07
import Derived.Test.YtgoifbjgmgbihaaGreatT05
import Derived.Test.YtgoifbjgmgbihaaGreatVid
import Derived.Test.YtgoifbjgmgbihaaGreatT06
set_option linter.unusedSimpArgs false
set_option linter.unusedVariables false
set_option maxRecDepth 20000
set_option maxHeartbeats 16000000
namespace Go.Proofs.YtgoifbjgmgbihaaGreat
open Go.Vi
def w3 (n:Txt) (m:Man) (d:Dsk):Dsk × Int:=cN n (bR m (d,0))
def w2 (n:Txt) (m:Man) (d:Dsk):Dsk × Int:=if(am d (cq d.files n)).2≠0 then am d (cq d.files n) else w3 n m (am d (cq d.files n)).1
def w1 (n x:Txt) (m:Man) (d:Dsk):Dsk × Int:=if(cN n (fD n x (d,0))).2≠0 then cN n (fD n x (d,0)) else w2 n m (cN n (fD n x (d,0))).1
def w0 (n x:Txt) (m:Man) (d:Dsk):Dsk × Int:=if(am d (bh d.files n)).2≠0 then am d (bh d.files n) else w1 n x m (am d (bh d.files n)).1
def wT (n x:Txt) (m:Man):Nat->Dsk->Dsk × Int
 | 0,d=>w0 n x m d
 | 1,d=>w1 n x m d
 | 2,d=>w2 n m d
 | 3,d=>w3 n m d
 | _,d=>(d,0)
theorem Me (d:Dsk) (n x:Txt) (m:Man):nz d n x m=w0 n x m d:=by
 have e1:bL n (d,0)=am d (bh d.files n):=bn _ _;unfold nz w0;simp only[e1];generalize am d (bh d.files n)=a;obtain⟨a1,a2⟩:=a;simp only[];by_cases c1:a2=0
 ·subst c1;simp only[if_true,ne_eq,not_true,if_false];unfold w1;generalize cN n (fD n x (a1,0))=b;obtain⟨b1,b2⟩:=b;simp only;by_cases c2:b2=0
  ·subst c2;have e2:fO n (b1,0)=am b1 (cq b1.files n):=bn _ _;unfold w2 w3;rw[e2];generalize am b1 (cq b1.files n)=c;obtain⟨c1',c2'⟩:=c;simp only[ne_eq,not_true,if_false];by_cases c3:c2'=0
   ·subst c3;simp
   ·simp[c3]
  ·have e2:fO n (b1,b2)=(b1,b2):=gv c2 _;simp[e2,c2]
 ·have e2:fO n (a1,a2)=(a1,a2):=gv c1 _;simp[e2,c1]
theorem A0 {k u:Nat} (d:Dsk) (hd:okN k u d) (hk:k<=700000) (hu:u<=700000000000) (n x:Txt) (hx:x.length<=100000) (X:Sto) (hl:X.segs.length<=1000000) (hm:X.man.ok) :
  call 109 [.agg d.l,.one (.sp 0 4)] [.cells [.f 110 [1],.f 152 [2,4],.f 114 [1],.f 152 [5,7]],.cells [zS n],.cells [.f 113 [1,3]],.cells [zS x],.cells [zS n],.cells [.f 115 [6]],.cells [.d (.l (X.disk.files.map Fil.enc)),zI X.disk.cap,zB X.disk.armed,zI X.disk.left,zB X.disk.down,zI X.ver,.cl (X.segs.map Seg.enc),zI X.next,zI X.sure,zI X.size,zW X.sum],.cells [zS n]]=some (aP (w0 n x X.man d),[.cells [.f 110 [1],.f 152 [2,4],.f 114 [1],.f 152 [5,7]],.cells [zS n],.cells [.f 113 [1,3]],.cells [zS x],.cells [zS n],.cells [.f 115 [6]],.cells [.d (.l (X.disk.files.map Fil.enc)),zI X.disk.cap,zB X.disk.armed,zI X.disk.left,zB X.disk.down,zI X.ver,.cl (X.segs.map Seg.enc),zI X.next,zI X.sure,zI X.size,zW X.sum],.cells [zS n]]):=by
 obtain⟨Z,hZ⟩:∃ Z,Z=wT n x X.man 0 d:=⟨_,rfl⟩;have hZ0:w0 n x X.man d=Z:=hZ.symm;rw[hZ0];clear hZ0;obtain⟨⟨zfl,zcp,zar,zlf,zdn⟩,ze⟩:=Z;simp only[aP,Dsk.l];apply ah Nr rfl;obtain⟨dfl,dcp,dar,dlf,ddn⟩:=d;(simp(disch:=first|decide|omega|(intros;exact aj rfl rfl)|simp only[aa]) only[aF,Fc,go_sem,seval,ak])
 refine aB (m:=8) (σ:=Nat × Dsk) (fun t=>4-t.1) (fun t=>t.1<=4∧okN (k+2*t.1) (u+100800*t.1) t.2∧wT n x X.man t.1 t.2=(⟨zfl,zcp,zar,zlf,zdn⟩,ze)) (fun t=>[V.one (.p 8 0),V.one (.p 9 0),V.one (.sp 0 4),vi 4,vi t.1])
  (fun t=>[.cells [.f 110 [1],.f 152 [2,4],.f 114 [1],.f 152 [5,7]],.cells [zS n],.cells [.f 113 [1,3]],.cells [zS x],.cells [zS n],.cells [.f 115 [6]],.cells [.d (.l (X.disk.files.map Fil.enc)),zI X.disk.cap,zB X.disk.armed,zI X.disk.left,zB X.disk.down,zI X.ver,.cl (X.segs.map Seg.enc),zI X.next,zI X.sure,zI X.size,zW X.sum],.cells [zS n],.cells [.d (.l (t.2.files.map Fil.enc)),zI t.2.cap,zB t.2.armed,zI t.2.left,zB t.2.down],.cells [.ns,zI 0,zB false,zI 0,zB false]])
  (fun _=>(V.tup [(true,[.d (.l (zfl.map Fil.enc)),zI zcp,zB zar,zI zlf,zB zdn]),(false,[zI ze])],([.cells [.f 110 [1],.f 152 [2,4],.f 114 [1],.f 152 [5,7]],.cells [zS n],.cells [.f 113 [1,3]],.cells [zS x],.cells [zS n],.cells [.f 115 [6]],.cells [.d (.l (X.disk.files.map Fil.enc)),zI X.disk.cap,zB X.disk.armed,zI X.disk.left,zB X.disk.down,zI X.ver,.cl (X.segs.map Seg.enc),zI X.next,zI X.sure,zI X.size,zW X.sum],.cells [zS n]]:Hp))) ?_ (0,⟨dfl,dcp,dar,dlf,ddn⟩) ⟨zP _,hd,hZ.symm⟩ _ _ ?_
 rotate_left
 ·exact cm
 rintro⟨i,⟨fl,cp,ar,lf,dn⟩⟩ ⟨h1,h2,h3⟩ R hR;simp only at h1 h2 h3 ⊢;have hok:=h2.ok (by omega) (by omega)
 rcases(by omega:i=0∨i=1∨i=2∨i=3∨i=4) with rfl|rfl|rfl|rfl|rfl
 ·have q1:=Hz ⟨fl,cp,ar,lf,dn⟩ hok n;have kk:=dY (s:=(⟨fl,cp,ar,lf,dn⟩,0)) h2 n;rw[show bL n (⟨fl,cp,ar,lf,dn⟩,0)=am ⟨fl,cp,ar,lf,dn⟩ (bh fl n) from bn _ _] at kk
  simp only[wT,w0] at h3;simp only at q1;generalize am ⟨fl,cp,ar,lf,dn⟩ (bh fl n)=q at *;have kq:=kk.up (k':=k+2*(0+1)) (u':=u+100800*(0+1)) (by omega) (by omega)
  obtain⟨⟨qfl,qcp,qar,qlf,qdn⟩,qe⟩:=q;simp only[aP,Dsk.l] at q1 h3;have g1:∀ b0 b2 b3 b4 b5 b6 b7 b8 b9:Box,au call 110 [.agg [.d (.l (fl.map Fil.enc)),zI cp,zB ar,zI lf,zB dn],.one (.p 1 0)] [b0,.cells [zS n],b2,b3,b4,b5,b6,b7,b8,b9]=some (V.tup [(true,[.d (.l (qfl.map Fil.enc)),zI qcp,zB qar,zI qlf,zB qdn]),(false,[zI qe])],[b0,.cells [zS n],b2,b3,b4,b5,b6,b7,b8,b9]):=fun b0 b2 b3 b4 b5 b6 b7 b8 b9=>aE (ids:=[1]) rfl rfl rfl q1 rfl
  by_cases c2:qe=0
  ·subst c2;rw[if_neg (by simp)] at h3
   have hR':=hR (0+1,⟨qfl,qcp,qar,qlf,qdn⟩) (by simp only[];omega) ⟨by simp only[];omega,kq,h3⟩
   (simp(disch:=first|decide|omega|(intros;exact aj rfl rfl)|simp only[aa]) only[aF,gl,g1,go_sem,seval,ak,bI,A.kind,A.xs,aD,A.isN])
   exact hR' _ _ cm
  ·rw[if_pos c2] at h3;cases h3;(simp(disch:=first|decide|omega|(intros;exact aj rfl rfl)|simp only[aa]) only[aF,gl,g1,c2,go_sem,seval,ak,bI,A.kind,A.xs,aD,A.isN])
   try simp[zR,c2]
 ·have q1:=DB ⟨fl,cp,ar,lf,dn⟩ h2 (by omega) (by omega) n x (by omega)
  have kk:=kP (iZ (s:=(⟨fl,cp,ar,lf,dn⟩,0)) h2 n x) n;simp only[wT,w1] at h3;generalize cN n (fD n x (⟨fl,cp,ar,lf,dn⟩,0))=q at *;have kq:=kk.up (k':=k+2*(1+1)) (u':=u+100800*(1+1)) (by omega) (by omega)
  obtain⟨⟨qfl,qcp,qar,qlf,qdn⟩,qe⟩:=q;simp only[aP,Dsk.l] at q1 h3;have g1:∀ b0 b5 b6 b7 b8 b9:Box,au call 152 [.agg [.d (.l (fl.map Fil.enc)),zI cp,zB ar,zI lf,zB dn],.one (.p 2 0),.one (.p 4 0)] [b0,.cells [zS n],.cells [.f 113 [1,3]],.cells [zS x],.cells [zS n],b5,b6,b7,b8,b9]=some (V.tup [(true,[.d (.l (qfl.map Fil.enc)),zI qcp,zB qar,zI qlf,zB qdn]),(false,[zI qe])],[b0,.cells [zS n],.cells [.f 113 [1,3]],.cells [zS x],.cells [zS n],b5,b6,b7,b8,b9]):=fun b0 b5 b6 b7 b8 b9=>aE (ids:=[2,1,3,4]) rfl rfl rfl q1 rfl
  by_cases c2:qe=0
  ·subst c2;rw[if_neg (by simp)] at h3
   have hR':=hR (1+1,⟨qfl,qcp,qar,qlf,qdn⟩) (by simp only[];omega) ⟨by simp only[];omega,kq,h3⟩
   (simp(disch:=first|decide|omega|(intros;exact aj rfl rfl)|simp only[aa]) only[aF,gl,g1,go_sem,seval,ak,bI,A.kind,A.xs,aD,A.isN])
   exact hR' _ _ cm
  ·rw[if_pos c2] at h3;cases h3;(simp(disch:=first|decide|omega|(intros;exact aj rfl rfl)|simp only[aa]) only[aF,gl,g1,c2,go_sem,seval,ak,bI,A.kind,A.xs,aD,A.isN])
   try simp[zR,c2]
 ·have q1:=Gi ⟨fl,cp,ar,lf,dn⟩ hok n;have kk:=kL (s:=(⟨fl,cp,ar,lf,dn⟩,0)) h2 n;rw[show fO n (⟨fl,cp,ar,lf,dn⟩,0)=am ⟨fl,cp,ar,lf,dn⟩ (cq fl n) from bn _ _] at kk
  simp only[wT,w2] at h3;simp only at q1;generalize am ⟨fl,cp,ar,lf,dn⟩ (cq fl n)=q at *;have kq:=kk.up (k':=k+2*(2+1)) (u':=u+100800*(2+1)) (by omega) (by omega)
  obtain⟨⟨qfl,qcp,qar,qlf,qdn⟩,qe⟩:=q;simp only[aP,Dsk.l] at q1 h3;have g1:∀ b0 b2 b3 b4 b5 b6 b7 b8 b9:Box,au call 114 [.agg [.d (.l (fl.map Fil.enc)),zI cp,zB ar,zI lf,zB dn],.one (.p 1 0)] [b0,.cells [zS n],b2,b3,b4,b5,b6,b7,b8,b9]=some (V.tup [(true,[.d (.l (qfl.map Fil.enc)),zI qcp,zB qar,zI qlf,zB qdn]),(false,[zI qe])],[b0,.cells [zS n],b2,b3,b4,b5,b6,b7,b8,b9]):=fun b0 b2 b3 b4 b5 b6 b7 b8 b9=>aE (ids:=[1]) rfl rfl rfl q1 rfl
  by_cases c2:qe=0
  ·subst c2;rw[if_neg (by simp)] at h3
   have hR':=hR (2+1,⟨qfl,qcp,qar,qlf,qdn⟩) (by simp only[];omega) ⟨by simp only[];omega,kq,h3⟩
   (simp(disch:=first|decide|omega|(intros;exact aj rfl rfl)|simp only[aa]) only[aF,gl,g1,go_sem,seval,ak,bI,A.kind,A.xs,aD,A.isN])
   exact hR' _ _ cm
  ·rw[if_pos c2] at h3;cases h3;(simp(disch:=first|decide|omega|(intros;exact aj rfl rfl)|simp only[aa]) only[aF,gl,g1,c2,go_sem,seval,ak,bI,A.kind,A.xs,aD,A.isN])
   try simp[zR,c2]
 ·have q1:=Dh ⟨fl,cp,ar,lf,dn⟩ h2 (by omega) (by omega) n X hl hm
  have kk:=kP (gS (s:=(⟨fl,cp,ar,lf,dn⟩,0)) h2 X.man) n;simp only[wT,w3] at h3;generalize cN n (bR X.man (⟨fl,cp,ar,lf,dn⟩,0))=q at *;have kq:=kk.up (k':=k+2*(3+1)) (u':=u+100800*(3+1)) (by omega) (by omega)
  obtain⟨⟨qfl,qcp,qar,qlf,qdn⟩,qe⟩:=q;simp only[aP,Dsk.l] at q1 h3;have g1:∀ b0 b1 b2 b3 b4 b8 b9:Box,au call 152 [.agg [.d (.l (fl.map Fil.enc)),zI cp,zB ar,zI lf,zB dn],.one (.p 5 0),.one (.p 7 0)] [b0,b1,b2,b3,b4,.cells [.f 115 [6]],.cells [.d (.l (X.disk.files.map Fil.enc)),zI X.disk.cap,zB X.disk.armed,zI X.disk.left,zB X.disk.down,zI X.ver,.cl (X.segs.map Seg.enc),zI X.next,zI X.sure,zI X.size,zW X.sum],.cells [zS n],b8,b9]=some (V.tup [(true,[.d (.l (qfl.map Fil.enc)),zI qcp,zB qar,zI qlf,zB qdn]),(false,[zI qe])],[b0,b1,b2,b3,b4,.cells [.f 115 [6]],.cells [.d (.l (X.disk.files.map Fil.enc)),zI X.disk.cap,zB X.disk.armed,zI X.disk.left,zB X.disk.down,zI X.ver,.cl (X.segs.map Seg.enc),zI X.next,zI X.sure,zI X.size,zW X.sum],.cells [zS n],b8,b9]):=fun b0 b1 b2 b3 b4 b8 b9=>aE (ids:=[5,6,7]) rfl rfl rfl q1 rfl
  by_cases c2:qe=0
  ·subst c2;have hR':=hR (3+1,⟨qfl,qcp,qar,qlf,qdn⟩) (by simp only[];omega) ⟨by simp only[];omega,kq,h3⟩
   (simp(disch:=first|decide|omega|(intros;exact aj rfl rfl)|simp only[aa]) only[aF,gl,g1,go_sem,seval,ak,bI,A.kind,A.xs,aD,A.isN])
   exact hR' _ _ cm
  ·cases h3;(simp(disch:=first|decide|omega|(intros;exact aj rfl rfl)|simp only[aa]) only[aF,gl,g1,c2,go_sem,seval,ak,bI,A.kind,A.xs,aD,A.isN])
   try simp[zR,c2]
 ·simp only[wT] at h3;cases h3;(simp(disch:=first|decide|omega|(intros;exact aj rfl rfl)|simp only[aa]) only[aF,gl,Fc,go_sem,seval,ak,bI,A.kind,A.xs,aD,A.isN])
  try simp[zR]
def yI (n:Txt):List D:=[.fn 154 [[.s n]]]
theorem Dp {k u:Nat} (d:Dsk) (hd:okN k u d) (hk:k<=900000) (hu:u<=900000000000) (l:List Txt) (hl:l.length<=1000):call 109 [.agg d.l,vl (l.map yI)] []=some (aP (tP l (d,0)),[]):=by
 obtain⟨Z,hZ⟩:∃ Z,Z=tP l (d,0):=⟨_,rfl⟩;rw[<- hZ];obtain⟨⟨zfl,zcp,zar,zlf,zdn⟩,ze⟩:=Z;simp only[aP,Dsk.l];apply ah Nr rfl;obtain⟨dfl,dcp,dar,dlf,ddn⟩:=d;(simp(disch:=first|decide|omega|(intros;exact aj rfl rfl)|simp only[aa]) only[aF,Fc,go_sem,seval,ak])
 refine aB (m:=0) (σ:=Nat × Dsk) (fun t=>l.length-t.1) (fun t=>t.1<=l.length∧okN k u t.2∧tP (l.drop t.1) (t.2,0)=(⟨zfl,zcp,zar,zlf,zdn⟩,ze)) (fun t=>[V.one (.p 0 0),V.one (.p 1 0),vl (l.map yI),vi l.length,vi t.1])
  (fun t=>[.cells [.d (.l (t.2.files.map Fil.enc)),zI t.2.cap,zB t.2.armed,zI t.2.left,zB t.2.down],.cells [.ns,zI 0,zB false,zI 0,zB false]])
  (fun _=>(V.tup [(true,[.d (.l (zfl.map Fil.enc)),zI zcp,zB zar,zI zlf,zB zdn]),(false,[zI ze])],[])) ?_ (0,⟨dfl,dcp,dar,dlf,ddn⟩) ⟨zP _,hd,hZ.symm⟩ _ _ ?_
 rotate_left
 ·exact cm
 rintro⟨i,⟨fl,cp,ar,lf,dn⟩⟩ ⟨h1,h2,h3⟩ R hR;simp only at h1 h2 h3 ⊢;by_cases c:i<l.length
 ·have hc:(i:Int)<(l.length:Int):=by omega
  rw[zD c,nZ] at h3;have g1:(l.map yI)[i]?=some [.fn 154 [[.s l[i]]]]:=by rw[zG,zE c];rfl
  generalize l[i]=n at *;have g2:=yK ⟨fl,cp,ar,lf,dn⟩ (h2.ok (by omega) (by omega)) n
  have kk:=dL (s:=(⟨fl,cp,ar,lf,dn⟩,0)) h2 n;rw[show dw n (⟨fl,cp,ar,lf,dn⟩,0)=am ⟨fl,cp,ar,lf,dn⟩ (bO fl n) from bn _ _] at kk h3
  simp only at g2 h3;generalize am ⟨fl,cp,ar,lf,dn⟩ (bO fl n)=q at *;obtain⟨⟨qfl,qcp,qar,qlf,qdn⟩,qe⟩:=q;simp only[aP,Dsk.l] at g2 h3;have g3:∀ H:Hp,au call 154 [.agg [.d (.l (fl.map Fil.enc)),zI cp,zB ar,zI lf,zB dn],.one (.ip [.s n])] H=some (V.tup [(true,[.d (.l (qfl.map Fil.enc)),zI qcp,zB qar,zI qlf,zB qdn]),(false,[zI qe])],H):=fun H=>callIso_pure rfl g2 rfl
  by_cases c2:qe=0
  ·subst c2;have hR':=hR (i+1,⟨qfl,qcp,qar,qlf,qdn⟩) (by simp only[];omega) ⟨by simp only[];omega,kk,h3⟩
   (simp(disch:=first|decide|omega|(intros;exact aj rfl rfl)|simp only[aa]) only[aF,gl,zT hc,g1,g3,go_sem,seval,ak,bI,A.kind,A.xs,aD,A.isN])
   exact hR' _ _ cm
  ·rw[wA _ _ c2] at h3;cases h3;(simp(disch:=first|decide|omega|(intros;exact aj rfl rfl)|simp only[aa]) only[aF,gl,zT hc,g1,g3,c2,go_sem,seval,ak,bI,A.kind,A.xs,aD,A.isN])
   try simp[trim,c2]
 ·have hc:¬ (i:Int)<(l.length:Int):=by omega
  rw[zC (by omega)] at h3
  cases h3;(simp(disch:=first|decide|omega|(intros;exact aj rfl rfl)|simp only[aa]) only[aF,gl,Fc,zF hc,go_sem,seval,ak,bI,A.kind,A.xs,aD,A.isN])
  try simp[trim]
theorem xy (n:Txt) (g:Nat) (c1 c2:Txt):call 112 [vs n,.one (.f g [0,1])] [.cells [zS c1],.cells [zS c2]]=some (.one (.f 152 [3,2]),[.cells [zS c1],.cells [zS c2],.cells [zS n],.cells [.f g [0,1]]]):=by
 apply ah NV rfl;(simp(disch:=first|decide|omega|(intros;exact aj rfl rfl)|simp only[aa]) only[aF,Lp,go_sem,seval,ak])
 try simp[zR]
theorem vL (n:Txt) (g:Nat) (X:Sto):call 112 [vs n,.one (.f g [0])] [.cells [.d (.l (X.disk.files.map Fil.enc)),zI X.disk.cap,zB X.disk.armed,zI X.disk.left,zB X.disk.down,zI X.ver,.cl (X.segs.map Seg.enc),zI X.next,zI X.sure,zI X.size,zW X.sum]]=some (.one (.f 152 [2,1]),[.cells [.d (.l (X.disk.files.map Fil.enc)),zI X.disk.cap,zB X.disk.armed,zI X.disk.left,zB X.disk.down,zI X.ver,.cl (X.segs.map Seg.enc),zI X.next,zI X.sure,zI X.size,zW X.sum],.cells [zS n],.cells [.f g [0]]]):=by
 apply ah NV rfl;(simp(disch:=first|decide|omega|(intros;exact aj rfl rfl)|simp only[aa]) only[aF,Lp,go_sem,seval,ak])
 try simp[zR]
theorem mD {k u:Nat} (s:Sto) (h:okS k u s) (hk:k<=500000) (hu:u<=1000000) (keep count:Int) (hb:∀ g∈s.segs,g.base<=s.floor+1000)
  (hst:∀ g∈s.segs,lU s g.base=bJ s g.base):call 86 [.agg s.l,vi keep,vi count] []=some (dA (cM s keep count),[]):=by
 have q0:=zk s.segs ⟨Nat.le_trans h.len.2 (by omega),fun g hg=>by have:=h.seg g hg;omega⟩ keep count
 have q0':=tu s.segs keep count;unfold cM;have hcell:s.l=[.d (.l (s.disk.files.map Fil.enc)),zI s.disk.cap,zB s.disk.armed,zI s.disk.left,zB s.disk.down,zI s.ver,.d (.l (s.segs.map Seg.enc)),zI s.next,zI s.sure,zI s.size,zW s.sum]:=rfl;by_cases c0:d8 s.segs keep count=0
 ·rw[if_pos c0];rw[c0] at q0;apply ah RO rfl;rw[hcell];simp only[dA,hcell];(simp(disch:=first|decide|omega|(intros;exact aj rfl rfl)|simp only[aa]) only[aF,MW,q0,go_sem,seval,ak])
  try simp[trim]
 ·rw[if_neg c0];have hn:=q0' c0;generalize d8 s.segs keep count=n at *;clear q0';have hba:=im hn;have hbo:=u7 h hn;have hbm:=hb _ (zN hn);have hsm:=hst _ (zN hn);rw[<- hba.2] at hbm hsm;have q1:=Dc s h (by omega) (by omega) (aU s.segs n) hbo
  rw[hsm] at q1;have hso:=xC s (aU s.segs n);have hxl:=pa hso.1 (by omega)
  have q2:=Af (bJ s (aU s.segs n)) (by omega) (by omega) (fun p hp=>(hso.1 p hp).1)
  have q3:=oX (aZ (bJ s (aU s.segs n))) (by omega)
  have q4:=lz hbo;have hsum:=n5 (aZ (bJ s (aU s.segs n)));have hxm:(eb s n).segs.length<=1000000:=by show(s.segs.drop n).length<=_;have:=h.len;simp;omega
  have hmo:(eb s n).man.ok:=⟨by show((s.segs.drop n).map _).length<=_;rw[zM];exact hxm,hsum⟩
  have q5:=A0 s.disk h.dsk (by omega) (by omega) (aN (aU s.segs n)) (aZ (bJ s (aU s.segs n))) (by omega) (eb s n) hxm hmo
  have eX:eb s n={ s with ver:=s.ver+1,segs:=s.segs.drop n,size:=((aZ (bJ s (aU s.segs n))).length:Nat),sum:=cw (aZ (bJ s (aU s.segs n))) }:=rfl
  have kl:=Hq h.dsk (aN (aU s.segs n)) (aZ (bJ s (aU s.segs n))) (eb s n).man;unfold rC;simp only[Me] at kl ⊢;generalize w0 (aN (aU s.segs n)) (aZ (bJ s (aU s.segs n))) (eb s n).man s.disk=w at *;simp only[Ad];rw[eX] at q5 ⊢;have g0:(s.segs.map Seg.enc)[n]?=some s.segs[n].enc:=by rw[zG,zE hn];rfl
  generalize bJ s (aU s.segs n)=st at *;generalize aZ st=X at *;rw[hba.2] at *;generalize s.segs[n]=gn at *;obtain⟨gb,gnn,gz⟩:=gn;simp only[Seg.enc] at *;generalize aN gb=N at *;apply ah RO rfl;have hver:=h.ver;have hok:aR 3 (s.segs.map Seg.enc)=true:=aV Seg.len s.segs;have hslen:s.segs.length<=64:=h.len.2;have hnl:n<=s.segs.length:=Nat.le_of_lt hn;have hdr:List.drop n (s.segs.map Seg.enc)=(s.segs.drop n).map Seg.enc:=by rw[List.map_drop]
  have hdr0:((s.segs.drop n).map Seg.enc)[0]?=some [.i .i64 gb,.i .i64 gnn,.i .i64 gz]:=by rw[zG,List.getElem?_drop,Nat.add_zero];rw[zG] at g0;exact g0
  have hdo:aR 3 ((s.segs.drop n).map Seg.enc)=true:=aV Seg.len _;have hdl:((s.segs.drop n).map Seg.enc).length<=64:=by simp;omega
  rw[hcell] at q1;have f1:∀ b0 b1 b2 b4:Box,il call 112 [vs N,.one (.f 113 [5,3])] [b0,b1,b2,.cells [zS X],b4,.cells [zS N]]=some (.one (.f 152 [7,6]),[b0,b1,b2,.cells [zS X],b4,.cells [zS N],.cells [zS N],.cells [.f 113 [5,3]]]):=fun b0 b1 b2 b4 =>
   uR (ids:=[5,3]) rfl rfl rfl (aE (ids:=[0,1]) rfl rfl rfl (xy N 113 N X) rfl) rfl
  have f2':=vL N 115 (eb s n);obtain⟨⟨sfl,scp,sar,slf,sdn⟩,ver,segs,next,sure,size,sum⟩:=s;obtain⟨⟨wfl,wcp,war,wlf,wdn⟩,we⟩:=w;rw[eX] at f2';simp only[aP,Dsk.l,dA,hcell] at f2' q5 q1 kl hver hslen hnl hok hdr hdr0 hdo hdl h hbo ⊢;have f2:∀ b0 b1 b3 b4 b5 b6 b7:Box,il call 112 [vs N,.one (.f 115 [2])] [b0,b1,.cells [.d (.l (sfl.map Fil.enc)),zI scp,zB sar,zI slf,zB sdn,zI (ver+1),.cl ((segs.drop n).map Seg.enc),zI next,zI sure,zI X.length,zW (cw X)],b3,b4,b5,b6,b7]=some (.one (.f 152 [9,8]),[b0,b1,.cells [.d (.l (sfl.map Fil.enc)),zI scp,zB sar,zI slf,zB sdn,zI (ver+1),.cl ((segs.drop n).map Seg.enc),zI next,zI sure,zI X.length,zW (cw X)],b3,b4,b5,b6,b7,.cells [zS N],.cells [.f 115 [2]]]):=fun b0 b1 b3 b4 b5 b6 b7 =>
   uR (ids:=[2]) rfl rfl rfl (aE (ids:=[0]) rfl rfl rfl f2' rfl) rfl
  have f4:∀ b0 b1 b4:Box,rK 4 [.nf,.nf,.nf,.nf] [(0,1,.one (.f 110 [5])),(1,1,.one (.f 152 [7,6])),(2,1,.one (.f 114 [5])),(3,1,.one (.f 152 [9,8]))] [b0,b1,.cells [.d (.l (sfl.map Fil.enc)),zI scp,zB sar,zI slf,zB sdn,zI (ver+1),.cl ((segs.drop n).map Seg.enc),zI next,zI sure,zI X.length,zW (cw X)],.cells [zS X],b4,.cells [zS N],.cells [zS N],.cells [.f 113 [5,3]],.cells [zS N],.cells [.f 115 [2]]]=some (V.one (.sp 10 4),[b0,b1,.cells [.d (.l (sfl.map Fil.enc)),zI scp,zB sar,zI slf,zB sdn,zI (ver+1),.cl ((segs.drop n).map Seg.enc),zI next,zI sure,zI X.length,zW (cw X)],.cells [zS X],b4,.cells [zS N],.cells [zS N],.cells [.f 113 [5,3]],.cells [zS N],.cells [.f 115 [2]],.cells [.f 110 [5],.f 152 [7,6],.f 114 [5],.f 152 [9,8]]]):=fun b0 b1 b4 =>
   JK (ids:=[5,7,3,6,9,2,8]) rfl rfl rfl rfl
  have f3:∀ b0 b1 b4:Box,il call 109 [.agg [.d (.l (sfl.map Fil.enc)),zI scp,zB sar,zI slf,zB sdn],.one (.sp 10 4)] [b0,b1,.cells [.d (.l (sfl.map Fil.enc)),zI scp,zB sar,zI slf,zB sdn,zI (ver+1),.cl ((segs.drop n).map Seg.enc),zI next,zI sure,zI X.length,zW (cw X)],.cells [zS X],b4,.cells [zS N],.cells [zS N],.cells [.f 113 [5,3]],.cells [zS N],.cells [.f 115 [2]],.cells [.f 110 [5],.f 152 [7,6],.f 114 [5],.f 152 [9,8]]]=some (V.tup [(true,[.d (.l (wfl.map Fil.enc)),zI wcp,zB war,zI wlf,zB wdn]),(false,[zI we])],[b0,b1,.cells [.d (.l (sfl.map Fil.enc)),zI scp,zB sar,zI slf,zB sdn,zI (ver+1),.cl ((segs.drop n).map Seg.enc),zI next,zI sure,zI X.length,zW (cw X)],.cells [zS X],b4,.cells [zS N],.cells [zS N],.cells [.f 113 [5,3]],.cells [zS N],.cells [.f 115 [2]],.cells [.f 110 [5],.f 152 [7,6],.f 114 [5],.f 152 [9,8]]]):=fun b0 b1 b4 =>
   uR (ids:=[10,5,7,3,6,9,2,8]) rfl rfl rfl (aE (ids:=[0,1,2,3,4,5,6,7]) rfl rfl rfl q5 rfl) rfl
  clear f2' q5;by_cases c1:we=0
  ·subst c1;rw[if_neg (by simp)]
   have qf:call 119 [.agg [.d (.l (sfl.map Fil.enc)),zI scp,zB sar,zI slf,zB sdn,zI ver,.d (.l (segs.map Seg.enc)),zI next,zI sure,zI size,zW sum]] []=some (vi (Sto.floor ⟨⟨sfl,scp,sar,slf,sdn⟩,ver,segs,next,sure,size,sum⟩),[]):=mZ ⟨⟨sfl,scp,sar,slf,sdn⟩,ver,segs,next,sure,size,sum⟩;have hfo:=gU h;have qn:=lz hfo;have hseg:=h.seg;have hnm:jM ⟨⟨sfl,scp,sar,slf,sdn⟩,ver,segs,next,sure,size,sum⟩ n=(segs.take n).map (fun g=>fileN g.base)++(if 0<Sto.floor ⟨⟨sfl,scp,sar,slf,sdn⟩,ver,segs,next,sure,size,sum⟩ then[aN (Sto.floor ⟨⟨sfl,scp,sar,slf,sdn⟩,ver,segs,next,sure,size,sum⟩)] else[]):=rfl
   obtain⟨NS,hNS⟩:∃ NS,NS=jM ⟨⟨sfl,scp,sar,slf,sdn⟩,ver,segs,next,sure,size,sum⟩ n:=⟨_,rfl⟩;rw[<- hNS];rw[hnm] at hNS;clear hnm;generalize Sto.floor ⟨⟨sfl,scp,sar,slf,sdn⟩,ver,segs,next,sure,size,sum⟩=fl' at *;generalize aN fl'=FN at *;have hnl3:NS.length<=1000:=by
    rw[hNS,zA,zM,zQ];split <;> simp <;> omega
   have r2:=Dp ⟨wfl,wcp,war,wlf,wdn⟩ kl (by omega) (by omega) NS hnl3
   generalize tP NS (⟨wfl,wcp,war,wlf,wdn⟩,0)=z at *;obtain⟨⟨zfl,zcp,zar,zlf,zdn⟩,ze⟩:=z;simp only[Dsk.l,aP] at r2 ⊢;have htkn:List.take n (segs.map Seg.enc)=(segs.take n).map Seg.enc:=by rw[List.map_take]
   have hol:(segs.take n).length<=64:=by rw[zQ];omega
   have hom:∀ g∈segs.take n,0<=g.base∧g.base<=1099511627776:=fun g hg=>(hseg g (zZ hg)).1
   have hlen2:n=(segs.take n).length:=by rw[zQ];omega
   obtain⟨OL,hOL⟩:∃ OL,OL=segs.take n:=⟨_,rfl⟩;rw[<- hOL] at htkn hol hom hNS hlen2;clear hOL;(simp(disch:=first|decide|omega|(intros;exact aj rfl rfl)|simp only[aa]) only[aF,MW,q0,c0,hok,hnl,hdr,hdr0,hdo,q1,q2,↓jk,eQ,cr,q3,q4,↓Cd,↓BU,↓BV,f1,f2,f4,f3,htkn,zM,go_sem,seval,ak,bI,A.kind,A.xs,aD,A.isN])
   have hfin:(Sto.l ⟨⟨zfl,zcp,zar,zlf,zdn⟩,ver+1,segs.drop n,next,sure,(X.length:Nat),cw X⟩)=[.d (.l (zfl.map Fil.enc)),zI zcp,zB zar,zI zlf,zB zdn,zI (ver+1),.d (.l ((segs.drop n).map Seg.enc)),zI next,zI sure,zI X.length,zW (cw X)]:=rfl;rw[hfin];clear hfin f1 f2 f3 f4;refine aB (m:=0) (σ:=Nat) (fun i=>OL.length-i) (fun i=>i<=OL.length) (fun i=>[V.one (.p 0 0),V.one (.p 1 0),V.one (.p 2 0),V.one (.p 3 0),V.one (.sl 4 1 0 (OL.take i).length),vl (OL.map Seg.enc),vi OL.length,vi i])
    (fun i=>[.cells [.d (.l (sfl.map Fil.enc)),zI scp,zB sar,zI slf,zB sdn,zI ver,.d (.l (segs.map Seg.enc)),zI next,zI sure,zI size,zW sum],.cells [.ns,zI 0,zB false,zI 0,zB false,zI 0,.ns,zI 0,zI 0,zI 0,zW 0],.cells [.d (.l (sfl.map Fil.enc)),zI scp,zB sar,zI slf,zB sdn,zI (ver+1),.cl ((segs.drop n).map Seg.enc),zI next,zI sure,zI X.length,zW (cw X)],.cells [.d (.l (wfl.map Fil.enc)),zI wcp,zB war,zI wlf,zB wdn],.arr 1 ((OL.take i).map (fun g=>yI (fileN g.base))) 0])
    (fun _=>(V.tup [(true,[.d (.l (zfl.map Fil.enc)),zI zcp,zB zar,zI zlf,zB zdn,zI (ver+1),.d (.l ((segs.drop n).map Seg.enc)),zI next,zI sure,zI X.length,zW (cw X)]),(false,[zI ze])],([]:Hp))) ?_ 0 (zP _) _ _ ?_
   rotate_left
   ·exact cm
   clear q1 q2 q3 q4 q0;intro i hi R hR;by_cases c4:i<OL.length
   ·have hc4:(i:Int)<(OL.length:Int):=by omega
    have g1:(OL.map Seg.enc)[i]?=some [.i .i64 OL[i].base,.i .i64 OL[i].n,.i .i64 OL[i].size]:=by
     rw[zG,zE c4];rfl
    have g2:=ky (hom _ (zN c4));have hR':=hR (i+1) (by omega) (by omega)
    rw[zO c4,List.map_append,zA,List.map_cons,List.map_nil,List.length_cons,List.length_nil] at hR';have hrl:((OL.take i).map (fun g=>yI (fileN g.base))).length=(OL.take i).length:=by simp
    have hrl2:(OL.take i).length<=64:=by rw[zQ];omega
    generalize (OL.take i).map (fun g=>yI (fileN g.base))=RQ at *
    generalize (OL.take i).length=RL at *;have g3:=ua (fileN OL[i].base);simp only[yI] at hR';generalize fileN OL[i].base=FB at *;generalize OL[i]=sg at *;obtain⟨sb,sn,sz⟩:=sg;simp only at g1 g2;have g4:∀ b0 b1 b2 b3 b4 b5:Box,au call 118 [vs FB] [b0,b1,b2,b3,b4,b5]=some (.one (.f 154 [6]),[b0,b1,b2,b3,b4,b5,.cells [zS FB]]):=fun b0 b1 b2 b3 b4 b5=>aE (ids:=[]) rfl rfl rfl g3 rfl
    (simp(disch:=first|decide|omega|(intros;exact aj rfl rfl)|simp only[aa]) only[aF,BL,zT hc4,g1,g2,g4,rJ,lc,hrl,go_sem,seval,ak,bI,A.kind,A.xs,aD,A.isN])
    exact hR' _ _ cm
   ·have hc4:¬ (i:Int)<(OL.length:Int):=by omega
    have htk:OL.take i=OL:=zL (by omega)
    rw[htk];have hnt:List.take NS.length (NS.map yI)=NS.map yI:=zL (by simp)
    have hrl:(OL.map (fun g=>yI (fileN g.base))).length=OL.length:=by simp
    by_cases c5:0<fl'
    ·rw[if_pos c5] at hNS;have hrw:OL.map (fun g=>yI (fileN g.base))++[[.fn 154 [[.s FN]]]]=NS.map yI:=by rw[hNS];simp[yI]
     have hnl2:OL.length+1=NS.length:=by rw[hNS];simp
     have g3:=ua FN;generalize OL.map (fun g=>yI (fileN g.base))=RQ at *
     have g4:∀ b0 b1 b2 b3 b4:Box,au call 118 [vs FN] [b0,b1,b2,b3,b4]=some (.one (.f 154 [5]),[b0,b1,b2,b3,b4,.cells [zS FN]]):=fun b0 b1 b2 b3 b4=>aE (ids:=[]) rfl rfl rfl g3 rfl
     (simp(disch:=first|decide|omega|(intros;exact aj rfl rfl)|simp only[aa]) only[aF,BL,MW,zF hc4,qf,qn,zT c5,g4,rJ,lc,hrl,hrw,hnl2,hnt,r2,go_sem,seval,ak,bI,A.kind,A.xs,aD,A.isN])
     try simp[trim]
    ·rw[if_neg c5,List.append_nil] at hNS;have hrw:OL.map (fun g=>yI (fileN g.base))=NS.map yI:=by rw[hNS];simp
     have hnl2:OL.length=NS.length:=by rw[hNS];simp
     rw[hrw] at hrl ⊢;rw[show(.sl 4 1 0 OL.length:L)=.sl 4 1 0 NS.length by rw[hnl2]]
     (simp(disch:=first|decide|omega|(intros;exact aj rfl rfl)|simp only[aa]) only[aF,BL,MW,zF hc4,qf,zF c5,hnt,r2,go_sem,seval,ak,bI,A.kind,A.xs,aD,A.isN])
     try simp[trim]
  ·rw[if_pos c1];(simp(disch:=first|decide|omega|(intros;exact aj rfl rfl)|simp only[aa]) only[aF,MW,q0,c0,hok,hnl,hdr,hdr0,hdo,q1,q2,↓jk,eQ,cr,q3,q4,↓Cd,↓BU,↓BV,f1,f2,f4,f3,c1,go_sem,seval,ak,bI,A.kind,A.xs,aD,A.isN])
   try simp[trim,c1,Sto.l,Dsk.l]
structure Cnf where
 nodes:Int
 seg:Int
 keep:Int
 count:Int
 batch:Int
 most:Int
 window:Int
 held:Int
 chunk:Int
 pending:Int
 links:Int
 beat:Int
 retry:Int
 lease:Int
 top:Int
 deriving DecidableEq
def Cnf.enc (e:Cnf):List D:=[.i .i64 e.nodes,.i .i64 e.seg,.i .i64 e.keep,.i .i64 e.count,.i .i64 e.batch,.i .i64 e.most,.i .i64 e.window,.i .i64 e.held,.i .i64 e.chunk,.i .i64 e.pending,.i .i64 e.links,.i .i64 e.beat,.i .i64 e.retry,.i .i64 e.lease,.i .i64 e.top]
def Cnf.ok (e:Cnf):Prop:=(-9223372036854775808<=e.nodes∧e.nodes<9223372036854775808)∧(-9223372036854775808<=e.seg∧e.seg<9223372036854775808)∧(-9223372036854775808<=e.keep∧e.keep<9223372036854775808)∧(-9223372036854775808<=e.count∧e.count<9223372036854775808)∧(-9223372036854775808<=e.batch∧e.batch<9223372036854775808)∧(-9223372036854775808<=e.most∧e.most<9223372036854775808)∧(-9223372036854775808<=e.window∧e.window<9223372036854775808)∧(-9223372036854775808<=e.held∧e.held<9223372036854775808)∧(-9223372036854775808<=e.chunk∧e.chunk<9223372036854775808)∧(-9223372036854775808<=e.pending∧e.pending<9223372036854775808)∧(-9223372036854775808<=e.links∧e.links<9223372036854775808)∧(-9223372036854775808<=e.beat∧e.beat<9223372036854775808)∧(-9223372036854775808<=e.retry∧e.retry<9223372036854775808)∧(-9223372036854775808<=e.lease∧e.lease<9223372036854775808)∧(-9223372036854775808<=e.top∧e.top<9223372036854775808)
def Cnf.ty:List Ty:=[.i .i64,.i .i64,.i .i64,.i .i64,.i .i64,.i .i64,.i .i64,.i .i64,.i .i64,.i .i64,.i .i64,.i .i64,.i .i64,.i .i64,.i .i64]
structure Mg where
 kd:Int
 fr:Int
 tt:Int
 ic:Int
 pe:Int
 sq:Int
 at_:Int
 wi:Int
 hi:Int
 wa:Int
 ix:Int
 sz:Int
 su:Int
 da:Txt
 rs:List Rec
structure Boo where
 at_:Int
 sz:Int
 su:Int
 got:Txt
structure Fw where
 id_:Int
 ic:Int
 sto:Sto
 sq:Int
 wa:Int
 hd:List (List Rec)
 bo:Boo
 hi:Int
def Boo.l (b:Boo):List L:=[zI b.at_,zI b.sz,zW b.su,zS b.got]
def Cnf.l (c:Cnf):List L:=[zI c.nodes,zI c.seg,zI c.keep,zI c.count,zI c.batch,zI c.most,zI c.window,zI c.held,zI c.chunk,zI c.pending,zI c.links,zI c.beat,zI c.retry,zI c.lease,zI c.top]
def Mg.l (m:Mg):List L:=[zI m.kd,zI m.fr,zI m.tt,zI m.ic,zI m.pe,zI m.sq,zI m.at_,zI m.wi,zI m.hi,zI m.wa,zI m.ix,zI m.sz,zW m.su,zS m.da,.d (.l (m.rs.map Rec.enc))]
def Fw.l (f:Fw):List L:=[zI f.id_,zI f.ic,.d (.l (f.sto.disk.files.map Fil.enc)),zI f.sto.disk.cap,zB f.sto.disk.armed,zI f.sto.disk.left,zB f.sto.disk.down,zI f.sto.ver,.d (.l (f.sto.segs.map Seg.enc)),zI f.sto.next,zI f.sto.sure,zI f.sto.size,zW f.sto.sum,zI f.sq,zI f.wa,.d (.l (f.hd.map hE)),zI f.bo.at_,zI f.bo.sz,zW f.bo.su,zS f.bo.got,zI f.hi]
def aM (f:Fw) (c:Cnf) (m:Mg):List L:=[zI f.id_,zI f.ic,.d (.l (f.sto.disk.files.map Fil.enc)),zI f.sto.disk.cap,zB f.sto.disk.armed,zI f.sto.disk.left,zB f.sto.disk.down,zI f.sto.ver,.d (.l (f.sto.segs.map Seg.enc)),zI f.sto.next,zI f.sto.sure,zI f.sto.size,zW f.sto.sum,zI f.sq,zI f.wa,.d (.l (f.hd.map hE)),zI f.bo.at_,zI f.bo.sz,zW f.bo.su,zS f.bo.got,zI f.hi,zI c.nodes,zI c.seg,zI c.keep,zI c.count,zI c.batch,zI c.most,zI c.window,zI c.held,zI c.chunk,zI c.pending,zI c.links,zI c.beat,zI c.retry,zI c.lease,zI c.top,zI m.kd,zI m.fr,zI m.tt,zI m.ic,zI m.pe,zI m.sq,zI m.at_,zI m.wi,zI m.hi,zI m.wa,zI m.ix,zI m.sz,zW m.su,zS m.da,.d (.l (m.rs.map Rec.enc))]
def jS (seg:Int):List Rec->Sto->Sto × Int
 | [],s=>(s,0)
 | r::l,s=>if(eg s seg r).2≠0 then eg s seg r else jS seg l (eg s seg r).1
def qj (s:Sto) (keep count e:Int):Sto × Int:=if(cM s keep count).2=10 then((cM s keep count).1,10) else((cM s keep count).1,e)
def wU (was keep count:Int) (a:Sto × Int):Sto × Int :=
 if a.2=10 then a else if was<a.1.next then(if(aT a.1).2≠0 then aT a.1 else qj (aT a.1).1 keep count a.2) else qj a.1 keep count a.2
def dQ (s:Sto) (c:Cnf) (l:List Rec):Sto × Int:=wU s.next c.keep c.count (jS c.seg l s)
theorem yJ (seg:Int) (l:List Rec) (i:Nat) (h:i<l.length) (s:Sto):jS seg (l.drop i) s=if(eg s seg l[i]).2≠0 then eg s seg l[i] else jS seg (l.drop (i+1)) (eg s seg l[i]).1:=by
 rw[zD h];rfl
structure Go1 (k u n:Nat) (s:Sto):Prop where
 ok:okS k u s
 wr:∃ f S l0 R,WR f S l0 s R∧R.length<=n
theorem Go1.base {k u n:Nat} {s:Sto} (h:Go1 k u n s):∀ g∈s.segs,g.base<=s.floor+n:=by
 obtain⟨f,S,l0,R,hw,hn⟩:=h.wr;have hf:=hw.floor;have hx:=hw.next;obtain⟨M,g0,l,w,rfl⟩:=hw;intro g hg;rw[w.inv.segs] at hg;have hl:=iw _ _ _ w.inv.chain;have hnx:=w.inv.next;rw[hf];have e:(aX (M++[(g0,l)])).length=(aX M).length+l.length:=by rw[cJ,eJ,zA]
 rcases zX.1 hg with hg|hg
 ·obtain⟨p,hp,rfl⟩:=List.mem_map.1 hg;have:=rN w.inv.chain p hp;omega
 ·rw[zV.1 hg];omega
theorem Go1.app {k u n:Nat} {s:Sto} (h:Go1 k u n s) {seg:Int} (hseg:1<=seg) (hu:u<1000000000000) (r:Rec):Go1 (k+2) (u+1000) (n+1) (eg s seg r).1:=by
 obtain⟨f,S,l0,R,hw,hn⟩:=h.wr;refine⟨Ck h.ok seg r,?_⟩;rcases(hw.app h.ok hseg hu r).2.2 with⟨_,_,_,_,_,h1⟩|⟨h1,_⟩
 ·exact⟨_,_,_,_,h1,by simp;omega⟩
 ·exact⟨_,_,_,_,h1,by omega⟩
theorem Go1.sync {k u n:Nat} {s:Sto} (h:Go1 k u n s):Go1 k u n (aT s).1:=by
 obtain⟨f,S,l0,R,hw,hn⟩:=h.wr;exact⟨j5 h.ok,_,_,_,_,(hw.sync h.ok).1,hn⟩
theorem Go1.same {k u n:Nat} {s:Sto} (h:Go1 k u n s):∀ g∈s.segs,lU s g.base=bJ s g.base:=by
 obtain⟨f,S,l0,R,hw,hn⟩:=h.wr;exact hw.same_state h.ok
theorem Go1.up {k u n k' u' n':Nat} {s:Sto} (h:Go1 k u n s) (hk:k<=k') (hu:u<=u') (hn:n<=n'):Go1 k' u' n' s:=by
 obtain⟨f,S,l0,R,hw,hr⟩:=h.wr;exact⟨h.ok.up hk hu,f,S,l0,R,hw,by omega⟩
theorem ww {k u n:Nat} (f:Fw) (c:Cnf) (m:Mg) (hg:Go1 k u n f.sto) (l:List Rec) (hl:l.length<=200) (hr:∀ r∈l,r.ok) (hseg:1<=c.seg) (hk:k+2*l.length<=400000) (hu:u+1000*l.length<=900000) (hn:n+l.length<=1000) :
  call 63 [.one (.p 0 0),vl (l.map Rec.enc)] [.cells (aM f c m)]=some (vi (dQ f.sto c l).2,[.cells (aM { f with sto:=(dQ f.sto c l).1 } c m)]):=by
 have hcell:∀ s:Sto,s.l=[.d (.l (s.disk.files.map Fil.enc)),zI s.disk.cap,zB s.disk.armed,zI s.disk.left,zB s.disk.down,zI s.ver,.d (.l (s.segs.map Seg.enc)),zI s.next,zI s.sure,zI s.size,zW s.sum]:=fun _=>rfl
 obtain⟨Z,hZ⟩:∃ Z,Z=dQ f.sto c l:=⟨_,rfl⟩;rw[<- hZ];unfold dQ at hZ;apply ah SX rfl;simp only[aM];(simp(disch:=first|decide|omega|(intros;exact aj rfl rfl)|simp only[aa]) only[aF,Co,zM,go_sem,seval,ak,bI,A.kind,A.xs,aD,A.isN])
 refine aB (m:=1) (σ:=Nat × Sto) (fun t=>l.length-t.1) (fun t=>t.1<=l.length∧Go1 (k+2*t.1) (u+1000*t.1) (n+t.1) t.2∧Z=wU f.sto.next c.keep c.count (jS c.seg (l.drop t.1) t.2)) (fun t=>[V.one (.p 0 0),vi f.sto.next,vi 0,vl (l.map Rec.enc),vi l.length,vi t.1])
  (fun t=>[.cells (aM { f with sto:=t.2 } c m)]) (fun _=>((vi Z.2,[.cells (aM { f with sto:=Z.1 } c m)]):V × Hp)) ?_ (0,f.sto) ⟨zP _,hg,hZ⟩ _ _ ?_
 rotate_left
 ·exact cm
 clear hZ hg;rintro⟨i,s⟩ ⟨h1,hg,hZ⟩ R hR;simp only[aM] at h1 hg hZ ⊢;by_cases ci:i<l.length
 ·have hc:(i:Int)<(l.length:Int):=by omega
  have g1:(l.map Rec.enc)[i]?=some l[i].enc:=by rw[zG,zE ci];rfl
  rw[yJ c.seg l i ci] at hZ;have q1:=z7 s hg.ok (by omega) (by omega) c.seg l[i] (hr _ (zN ci))
  replace hg:=hg.app hseg (by omega) l[i]
  have hR':=hR (i+1,(eg s c.seg l[i]).1);generalize eg s c.seg l[i]=w at *;generalize l[i]=r at *;clear hR;obtain⟨s,e⟩:=w;obtain⟨ra,rb,rd⟩:=r;simp only[dA,hcell,Rec.enc,List.map_cons,List.map_nil] at q1 g1 hg hZ hR';by_cases ce:e=0
  ·subst ce;rw[if_neg (by simp)] at hZ
   have hK:=hR' (by omega) ⟨by omega,hg.up (by omega) (by omega) (by omega),hZ⟩
   (simp(disch:=first|decide|omega|(intros;exact aj rfl rfl)|simp only[aa]) only[aF,jQ,zT hc,g1,q1,go_sem,seval,ak,bI,A.kind,A.xs,aD,A.isN])
   exact hK _ _ cm
  ·rw[if_pos ce] at hZ;clear hR';unfold wU at hZ;simp only at hZ;by_cases c10:e=10
   ·rw[if_pos c10] at hZ;rw[hZ];(simp(disch:=first|decide|omega|(intros;exact aj rfl rfl)|simp only[aa]) only[aF,jQ,Co,zT hc,g1,q1,eq_false ce,eq_true c10,go_sem,seval,ak,bI,A.kind,A.xs,aD,A.isN])
    simp[zR,c10]
   ·rw[if_neg c10] at hZ;by_cases cn:f.sto.next<s.next
    ·rw[if_pos cn] at hZ;have q4:=pi s hg.ok (by omega) (by omega)
     replace hg:=hg.sync
     rw[hZ];generalize aT s=y at *;obtain⟨y1,ye⟩:=y;simp only[dA,hcell] at q4 hg ⊢;by_cases cy:ye=0
     ·subst cy;rw[if_neg (by simp)]
      have q5:=mD y1 hg.ok (by omega) (by omega) c.keep c.count (fun a ha=>by have:=hg.base a ha;omega) hg.same
      unfold qj;generalize cM y1 c.keep c.count=z at *;obtain⟨z1,ze⟩:=z;simp only[dA,hcell] at q5 ⊢;by_cases cz:ze=10
      ·subst cz;rw[if_pos rfl];(simp(disch:=first|decide|omega|(intros;exact aj rfl rfl)|simp only[aa]) only[aF,jQ,Co,zT hc,g1,q1,eq_false ce,eq_false c10,zT cn,q4,q5,go_sem,seval,ak,bI,A.kind,A.xs,aD,A.isN])
       simp[zR]
      ·rw[if_neg cz];(simp(disch:=first|decide|omega|(intros;exact aj rfl rfl)|simp only[aa]) only[aF,jQ,Co,zT hc,g1,q1,eq_false ce,eq_false c10,zT cn,q4,q5,eq_false cz,go_sem,seval,ak,bI,A.kind,A.xs,aD,A.isN])
       simp[zR]
     ·rw[if_pos cy];(simp(disch:=first|decide|omega|(intros;exact aj rfl rfl)|simp only[aa]) only[aF,jQ,Co,zT hc,g1,q1,eq_false ce,eq_false c10,zT cn,q4,eq_false cy,go_sem,seval,ak,bI,A.kind,A.xs,aD,A.isN])
      simp[zR]
    ·rw[if_neg cn] at hZ;rw[hZ];have q5:=mD s hg.ok (by omega) (by omega) c.keep c.count (fun a ha=>by have:=hg.base a ha;omega) hg.same
     unfold qj;generalize cM s c.keep c.count=z at *;obtain⟨z1,ze⟩:=z;simp only[dA,hcell] at q5 ⊢;by_cases cz:ze=10
     ·subst cz;rw[if_pos rfl];(simp(disch:=first|decide|omega|(intros;exact aj rfl rfl)|simp only[aa]) only[aF,jQ,Co,zT hc,g1,q1,eq_false ce,eq_false c10,zF cn,q5,go_sem,seval,ak,bI,A.kind,A.xs,aD,A.isN])
      simp[zR]
     ·rw[if_neg cz];(simp(disch:=first|decide|omega|(intros;exact aj rfl rfl)|simp only[aa]) only[aF,jQ,Co,zT hc,g1,q1,eq_false ce,eq_false c10,zF cn,q5,eq_false cz,go_sem,seval,ak,bI,A.kind,A.xs,aD,A.isN])
      simp[zR]
 ·have hc:¬ (i:Int)<(l.length:Int):=by omega
  rw[zC (by omega)] at hZ
  simp only[jS] at hZ;clear hR;unfold wU at hZ;simp only at hZ;rw[if_neg (by decide)] at hZ
  by_cases cn:f.sto.next<s.next
  ·rw[if_pos cn] at hZ;have q4:=pi s hg.ok (by omega) (by omega)
   replace hg:=hg.sync
   rw[hZ];generalize aT s=y at *;obtain⟨y1,ye⟩:=y;simp only[dA,hcell] at q4 hg ⊢;by_cases cy:ye=0
   ·subst cy;rw[if_neg (by simp)]
    have q5:=mD y1 hg.ok (by omega) (by omega) c.keep c.count (fun a ha=>by have:=hg.base a ha;omega) hg.same
    unfold qj;generalize cM y1 c.keep c.count=z at *;obtain⟨z1,ze⟩:=z;simp only[dA,hcell] at q5 ⊢;by_cases cz:ze=10
    ·subst cz;rw[if_pos rfl];(simp(disch:=first|decide|omega|(intros;exact aj rfl rfl)|simp only[aa]) only[aF,jQ,Co,zF hc,zT cn,q4,q5,go_sem,seval,ak,bI,A.kind,A.xs,aD,A.isN])
     simp[zR]
    ·rw[if_neg cz];(simp(disch:=first|decide|omega|(intros;exact aj rfl rfl)|simp only[aa]) only[aF,jQ,Co,zF hc,zT cn,q4,q5,eq_false cz,go_sem,seval,ak,bI,A.kind,A.xs,aD,A.isN])
     simp[zR]
   ·rw[if_pos cy];(simp(disch:=first|decide|omega|(intros;exact aj rfl rfl)|simp only[aa]) only[aF,jQ,Co,zF hc,zT cn,q4,eq_false cy,go_sem,seval,ak,bI,A.kind,A.xs,aD,A.isN])
    simp[zR]
  ·rw[if_neg cn] at hZ;rw[hZ];have q5:=mD s hg.ok (by omega) (by omega) c.keep c.count (fun a ha=>by have:=hg.base a ha;omega) hg.same
   unfold qj;generalize cM s c.keep c.count=z at *;obtain⟨z1,ze⟩:=z;simp only[dA,hcell] at q5 ⊢;by_cases cz:ze=10
   ·subst cz;rw[if_pos rfl];(simp(disch:=first|decide|omega|(intros;exact aj rfl rfl)|simp only[aa]) only[aF,jQ,Co,zF hc,zF cn,q5,go_sem,seval,ak,bI,A.kind,A.xs,aD,A.isN])
    simp[zR]
   ·rw[if_neg cz];(simp(disch:=first|decide|omega|(intros;exact aj rfl rfl)|simp only[aa]) only[aF,jQ,Co,zF hc,zF cn,q5,eq_false cz,go_sem,seval,ak,bI,A.kind,A.xs,aD,A.isN])
    simp[zR]
def ep (f:Fw) (c:Cnf) (m:Mg) (x:L):List L:=[zI f.id_,zI f.ic,.d (.l (f.sto.disk.files.map Fil.enc)),zI f.sto.disk.cap,zB f.sto.disk.armed,zI f.sto.disk.left,zB f.sto.disk.down,zI f.sto.ver,.d (.l (f.sto.segs.map Seg.enc)),zI f.sto.next,zI f.sto.sure,zI f.sto.size,zW f.sto.sum,zI f.sq,zI f.wa,x,zI f.bo.at_,zI f.bo.sz,zW f.bo.su,zS f.bo.got,zI f.hi,zI c.nodes,zI c.seg,zI c.keep,zI c.count,zI c.batch,zI c.most,zI c.window,zI c.held,zI c.chunk,zI c.pending,zI c.links,zI c.beat,zI c.retry,zI c.lease,zI c.top,zI m.kd,zI m.fr,zI m.tt,zI m.ic,zI m.pe,zI m.sq,zI m.at_,zI m.wi,zI m.hi,zI m.wa,zI m.ix,zI m.sz,zW m.su,zS m.da,.d (.l (m.rs.map Rec.enc))]
def ur (l:List Rec):Int:=(l.getLastD ⟨0,0,[]⟩).at_
def dM (h:List (List Rec)) (at_:Int):List (List Rec):=h.filter fun l=>decide (at_<=ur l)
theorem Fg {l:List Rec} (h:1<=l.length):∃ r:Rec,(l.map Rec.enc)[l.length-1]?=some [.i .i64 (ur l),.i .i64 r.ti,.s r.da]:=by
 have hl:l.length-1<l.length:=by omega
 refine⟨l[l.length-1],?_⟩;rw[zG,zE hl];unfold ur;rw[List.getLastD_eq_getLast?,List.getLast?_eq_getElem?,zE hl];rfl
theorem zb (h:List (List Rec)) (a:Int) (i:Nat) (hi:i<h.length):dM (h.take (i+1)) a=if a<=ur h[i] then dM (h.take i) a++[h[i]] else dM (h.take i) a:=by
 unfold dM;rw[zO hi,List.filter_append];by_cases c:a<=ur h[i] <;> simp[c]
theorem Cs (h:List (List Rec)) (a:Int):(dM h a).length<=h.length:=List.length_filter_le _ _
theorem AP {k u:Nat} (f:Fw) (c:Cnf) (m:Mg) (h:okS k u f.sto) (hk:k<=700000) (hu:u<=1000000) (hh:okH f.hd) (b:Boo) (hb : -9223372036854775808<=b.at_∧b.at_<9223372036854775808) (hx:b.got.length<=20000) :
  ((bf f.sto b.at_ b.got).2≠0->call 65 [.one (.p 0 0),.agg b.l] [.cells (aM f c m)]=some (vi (bf f.sto b.at_ b.got).2,[.cells (aM { f with sto:=(bf f.sto b.at_ b.got).1 } c m)])) ∧
  ((bf f.sto b.at_ b.got).2=0->call 65 [.one (.p 0 0),.agg b.l] [.cells (aM f c m)]=some (vi 0,[.cells (ep { f with sto:=(bf f.sto b.at_ b.got).1 } c m (.sl 2 1 0 (dM f.hd b.at_).length)),.cells b.l,.arr 1 ((dM f.hd b.at_).map hE) 0])):=by
 have hcell:∀ s:Sto,s.l=[.d (.l (s.disk.files.map Fil.enc)),zI s.disk.cap,zB s.disk.armed,zI s.disk.left,zB s.disk.down,zI s.ver,.d (.l (s.segs.map Seg.enc)),zI s.next,zI s.sure,zI s.size,zW s.sum]:=fun _=>rfl
 have q:=CF f.sto h hk hu b.at_ hb b.got hx;have hlen:=hh.len;generalize bf f.sto b.at_ b.got=w at *;obtain⟨s,e⟩:=w;obtain⟨ba,bz,bu,bg⟩:=b;simp only[dA,hcell,Boo.l,aM,ep] at q ⊢;constructor
 ·intro he;apply ah RB rfl;(simp(disch:=first|decide|omega|(intros;exact aj rfl rfl)|simp only[aa]) only[aF,Po,q,eq_false he,go_sem,seval,ak,bI,A.kind,A.xs,aD,A.isN])
  simp[zR]
 ·intro he;subst he;apply ah RB rfl;(simp(disch:=first|decide|omega|(intros;exact aj rfl rfl)|simp only[aa]) only[aF,Po,q,zM,go_sem,seval,ak,bI,A.kind,A.xs,aD,A.isN])
  refine aB (m:=1) (σ:=Nat) (fun i=>f.hd.length-i) (fun i=>i<=f.hd.length) (fun i=>[V.one (.p 0 0),V.one (.p 1 0),V.one (.sl 2 1 0 (dM (f.hd.take i) ba).length),vl (f.hd.map hE),vi f.hd.length,vi i])
   (fun i=>[.cells [zI f.id_,zI f.ic,.d (.l (s.disk.files.map Fil.enc)),zI s.disk.cap,zB s.disk.armed,zI s.disk.left,zB s.disk.down,zI s.ver,.d (.l (s.segs.map Seg.enc)),zI s.next,zI s.sure,zI s.size,zW s.sum,zI f.sq,zI f.wa,.d (.l (f.hd.map hE)),zI f.bo.at_,zI f.bo.sz,zW f.bo.su,zS f.bo.got,zI f.hi,zI c.nodes,zI c.seg,zI c.keep,zI c.count,zI c.batch,zI c.most,zI c.window,zI c.held,zI c.chunk,zI c.pending,zI c.links,zI c.beat,zI c.retry,zI c.lease,zI c.top,zI m.kd,zI m.fr,zI m.tt,zI m.ic,zI m.pe,zI m.sq,zI m.at_,zI m.wi,zI m.hi,zI m.wa,zI m.ix,zI m.sz,zW m.su,zS m.da,.d (.l (m.rs.map Rec.enc))],.cells [zI ba,zI bz,zW bu,zS bg],.arr 1 ((dM (f.hd.take i) ba).map hE) 0]) (fun _=>((vi 0,[.cells [zI f.id_,zI f.ic,.d (.l (s.disk.files.map Fil.enc)),zI s.disk.cap,zB s.disk.armed,zI s.disk.left,zB s.disk.down,zI s.ver,.d (.l (s.segs.map Seg.enc)),zI s.next,zI s.sure,zI s.size,zW s.sum,zI f.sq,zI f.wa,.sl 2 1 0 (dM f.hd ba).length,zI f.bo.at_,zI f.bo.sz,zW f.bo.su,zS f.bo.got,zI f.hi,zI c.nodes,zI c.seg,zI c.keep,zI c.count,zI c.batch,zI c.most,zI c.window,zI c.held,zI c.chunk,zI c.pending,zI c.links,zI c.beat,zI c.retry,zI c.lease,zI c.top,zI m.kd,zI m.fr,zI m.tt,zI m.ic,zI m.pe,zI m.sq,zI m.at_,zI m.wi,zI m.hi,zI m.wa,zI m.ix,zI m.sz,zW m.su,zS m.da,.d (.l (m.rs.map Rec.enc))],.cells [zI ba,zI bz,zW bu,zS bg],.arr 1 ((dM f.hd ba).map hE) 0]):V × Hp)) ?_ 0 (zP _) _ _ ?_
  rotate_left
  ·exact cm
  intro i h1 R hR;have hrl:=Cs (f.hd.take i) ba;have htl:(f.hd.take i).length<=i:=by rw[zQ];omega
  have hml:((dM (f.hd.take i) ba).map hE).length=(dM (f.hd.take i) ba).length:=by simp
  by_cases ci:i<f.hd.length
  ·have hc:(i:Int)<(f.hd.length:Int):=by omega
   have g1:(f.hd.map hE)[i]?=some [.l (f.hd[i].map Rec.enc)]:=by rw[zG,zE ci];rfl
   have hob:=hh.all _ (zN ci);have hbl:=hob.len;obtain⟨r,g2⟩:=Fg hbl.1;have hn1:((f.hd[i].length:Nat):Int)-1=((f.hd[i].length-1:Nat):Int):=by omega
   have hn2:(((f.hd[i].length:Nat):Int)-1).toNat=f.hd[i].length-1:=by omega
   have hn3:f.hd[i].length-1<f.hd[i].length:=by omega
   have hlm:(f.hd[i].map Rec.enc).length=f.hd[i].length:=by simp
   have hK:=hR (i+1) (by omega) (by omega)
   rw[zb f.hd ba i ci] at hK;clear hR;have hhe:hE f.hd[i]=[.l (f.hd[i].map Rec.enc)]:=rfl;generalize f.hd[i]=l at *;generalize dM (f.hd.take i) ba=G at *;by_cases cl:ba<=ur l
   ·rw[if_pos cl] at hK;simp only[zA,List.length_cons,List.length_nil,Nat.zero_add,List.map_append,List.map_cons,List.map_nil,hhe] at hK;(simp(disch:=first|decide|omega|(intros;exact aj rfl rfl)|simp only[aa]) only[aF,B8,zT hc,g1,hlm,hn1,hn2,hn3,g2,zT cl,hml,go_sem,seval,ak,bI,A.kind,A.xs,aD,A.isN])
    exact hK _ _ cm
   ·rw[if_neg cl] at hK;(simp(disch:=first|decide|omega|(intros;exact aj rfl rfl)|simp only[aa]) only[aF,B8,zT hc,g1,hlm,hn1,hn2,hn3,g2,zF cl,go_sem,seval,ak,bI,A.kind,A.xs,aD,A.isN])
    exact hK _ _ cm
  ·have hc:¬ (i:Int)<(f.hd.length:Int):=by omega
   have hil:i=f.hd.length:=by omega
   rw[hil,List.take_length] at *;clear hR;(simp(disch:=first|decide|omega|(intros;exact aj rfl rfl)|simp only[aa]) only[aF,B8,Po,zF hc,go_sem,seval,ak,bI,A.kind,A.xs,aD,A.isN])
   simp[zR]
def bv:Boo:=⟨0,0,0,[]⟩
def sV (f:Fw) (m:Mg):Txt:=if m.at_=f.bo.at_∧m.sz=f.bo.sz∧m.su=f.bo.su then f.bo.got else[]
def ef (f:Fw) (m:Mg):Boo:=⟨m.at_,m.sz,m.su,if m.ix=((sV f m).length:Nat) then sV f m++m.da else sV f m⟩
def nA (f:Fw) (b:Boo):Fw × Int:=if(bf f.sto b.at_ b.got).2≠0 then({ f with sto:=(bf f.sto b.at_ b.got).1,bo:=bv },(bf f.sto b.at_ b.got).2) else({ f with sto:=(bf f.sto b.at_ b.got).1,bo:=bv,hd:=dM f.hd b.at_ },0)
def lV (f:Fw) (m:Mg):Fw × Int :=
 if m.at_<=f.sto.next∨m.at_<f.bo.at_ then(f,0) else
 if((ef f m).got.length:Nat)<(ef f m).sz then({ f with bo:=ef f m },0) else
 if(ef f m).sz<((ef f m).got.length:Nat)∨cw (ef f m).got≠(ef f m).su then({ f with bo:=bv },0) else nA f (ef f m)
def HS (f:Fw) (c:Cnf) (m:Mg) (H:Hp):Prop:=H=[.cells (aM f c m)]∨∃ B1 B2 B3 B4,H=[.cells (ep f c m (.sl 5 1 0 f.hd.length)),B1,B2,B3,B4,.arr 1 (f.hd.map hE) 0]
theorem w5 {k u:Nat} (f:Fw) (c:Cnf) (m:Mg) (h:okS k u f.sto) (hk:k<=700000) (hu:u<=1000000) (hh:okH f.hd) (hm : -9223372036854775808<=m.at_∧m.at_<9223372036854775808) (hx:f.bo.got.length+m.da.length<=20000) :
  ∃ z,call 38 [.one (.p 0 0)] [.cells (aM f c m)]=some z∧(z.1=vi (lV f m).2∧HS (lV f m).1 c m z.2):=by
 have hgl:(sV f m).length<=f.bo.got.length:=by unfold sV;split <;> simp
 have hbl:(ef f m).got.length<=20000:=by
  unfold ef;simp only;split
  ·rw[zA];omega
  ·omega
 unfold lV;by_cases c1:m.at_<=f.sto.next∨m.at_<f.bo.at_
 ·rw[if_pos c1];apply z6 Rz rfl;simp only[aM];rcases c1 with c1|c1
  ·(simp(disch:=first|decide|omega|(intros;exact aj rfl rfl)|simp only[aa]) only[aF,qT,zT c1,go_sem,seval,ak,bI,A.kind,A.xs,aD,A.isN])
   exact⟨_,rfl,by simp[zR,HS,aM]⟩
  ·by_cases c0:m.at_<=f.sto.next
   ·(simp(disch:=first|decide|omega|(intros;exact aj rfl rfl)|simp only[aa]) only[aF,qT,zT c0,go_sem,seval,ak,bI,A.kind,A.xs,aD,A.isN])
    exact⟨_,rfl,by simp[zR,HS,aM]⟩
   ·(simp(disch:=first|decide|omega|(intros;exact aj rfl rfl)|simp only[aa]) only[aF,qT,zF c0,zT c1,go_sem,seval,ak,bI,A.kind,A.xs,aD,A.isN])
    exact⟨_,rfl,by simp[zR,HS,aM]⟩
 ·rw[if_neg c1];simp only[not_or] at c1;obtain⟨c1,c2⟩:=c1;obtain⟨b,hb⟩:∃ b,b=ef f m:=⟨_,rfl⟩;have hb1:b.at_=m.at_:=by rw[hb];rfl
  have hb2:b.sz=m.sz:=by rw[hb];rfl
  have hb3:b.su=m.su:=by rw[hb];rfl
  have hb4:b.got=if m.ix=((sV f m).length:Nat) then sV f m++m.da else sV f m:=by rw[hb];rfl
  rw[<- hb] at hbl ⊢;have q5:=oX b.got (by omega)
  have hi:=AP { f with bo:=bv } c m h hk hu hh b (by rw[hb1];exact hm) (by omega)
  have heq:mO [0,0,0,2] [zI m.at_,zI m.sz,zW m.su,zS f.bo.got] [zI f.bo.at_,zI f.bo.sz,zW f.bo.su,zS f.bo.got]=some (decide (m.at_=f.bo.at_∧m.sz=f.bo.sz∧m.su=f.bo.su)):=by
   simp only[mO,wg,if_true];congr 1
   rw[Bool.eq_iff_iff];simp
  unfold sV at hb4 hgl;apply z6 Rz rfl;simp only[aM];by_cases c3:m.at_=f.bo.at_∧m.sz=f.bo.sz∧m.su=f.bo.su
  ·rw[zT c3] at heq;rw[if_pos c3] at hb4 hgl;by_cases c4:m.ix=((f.bo.got.length:Nat):Int)
   ·rw[if_pos c4] at hb4;have hbe:b=⟨m.at_,m.sz,m.su,f.bo.got++m.da⟩:=by
     obtain⟨b1,b2,b3,b4⟩:=b;simp only at hb1 hb2 hb3 hb4;rw[hb1,hb2,hb3,hb4];try rfl
    clear hb hb1 hb2 hb3 hb4;subst hbe;simp only at q5 hi hbl ⊢;by_cases c5:(((f.bo.got++m.da:Txt).length:Nat):Int)<m.sz
    ·rw[if_pos c5];try simp only[List.length_nil,Int.ofNat_zero,zA] at c5
     (simp(disch:=first|decide|omega|(intros;exact aj rfl rfl)|simp only[aa]) only[aF,qT,zF c1,zF c2,heq,eq_true c4,zT c5,go_sem,seval,ak,bI,A.kind,A.xs,aD,A.isN])
     exact⟨_,rfl,by simp[zR,HS,aM,bv]⟩
    ·rw[if_neg c5];by_cases c6:m.sz<(((f.bo.got++m.da:Txt).length:Nat):Int)
     ·rw[if_pos (.inl c6)];try simp only[List.length_nil,Int.ofNat_zero,zA] at c5 c6
      (simp(disch:=first|decide|omega|(intros;exact aj rfl rfl)|simp only[aa]) only[aF,qT,zF c1,zF c2,heq,eq_true c4,zF c5,zT c6,go_sem,seval,ak,bI,A.kind,A.xs,aD,A.isN])
      exact⟨_,rfl,by simp[zR,HS,aM,bv]⟩
     ·by_cases c7:cw (f.bo.got++m.da)=m.su
      ·rw[if_neg (by simp only[not_or,ne_eq,Decidable.not_not];exact⟨c6,c7⟩)]
       try simp only[List.length_nil,Int.ofNat_zero,zA] at c5 c6
       unfold nA;simp only;by_cases c8:(bf f.sto m.at_ (f.bo.got++m.da)).2=0
       ·have q6:=hi.2 c8;rw[if_neg (by simp[c8])]
        clear hi;generalize bf f.sto m.at_ (f.bo.got++m.da)=w at *;obtain⟨s,e⟩:=w;simp only[aM,ep,bv,Boo.l] at q6 c8 ⊢;have f6:∀ B1 B2 B3:Box,au call 65 [.one (.p 0 0),.agg [zI m.at_,zI m.sz,zW m.su,zS (f.bo.got++m.da)]] [.cells (aM { f with bo:=bv } c m),B1,B2,B3]=some (vi 0,[.cells (ep { f with sto:=s,bo:=bv } c m (.sl 5 1 0 (dM f.hd m.at_).length)),B1,B2,B3,.cells [zI m.at_,zI m.sz,zW m.su,zS (f.bo.got++m.da)],.arr 1 ((dM f.hd m.at_).map hE) 0]):=fun B1 B2 B3 =>
         aE (ids:=[0]) rfl rfl rfl q6 rfl
        simp only[aM,ep,bv] at f6;(simp(disch:=first|decide|omega|(intros;exact aj rfl rfl)|simp only[aa]) only[aF,qT,zF c1,zF c2,heq,eq_true c4,zF c5,zF c6,↓bY,kW,eQ,cr,q5,eq_true c7,f6,go_sem,seval,ak,bI,A.kind,A.xs,aD,A.isN])
        refine⟨_,rfl,by simp[zR],.inr ?_⟩
        simp[zR,ep]
       ·have q6:=hi.1 c8;rw[if_pos c8];clear hi;generalize bf f.sto m.at_ (f.bo.got++m.da)=w at *;obtain⟨s,e⟩:=w;simp only[aM,bv,Boo.l] at q6 c8 ⊢;have f6:∀ B1 B2 B3:Box,au call 65 [.one (.p 0 0),.agg [zI m.at_,zI m.sz,zW m.su,zS (f.bo.got++m.da)]] [.cells (aM { f with bo:=bv } c m),B1,B2,B3]=some (vi e,[.cells (aM { f with sto:=s,bo:=bv } c m),B1,B2,B3]):=fun B1 B2 B3 =>
         aE (ids:=[0]) rfl rfl rfl q6 rfl
        simp only[aM,ep,bv] at f6;(simp(disch:=first|decide|omega|(intros;exact aj rfl rfl)|simp only[aa]) only[aF,qT,zF c1,zF c2,heq,eq_true c4,zF c5,zF c6,↓bY,kW,eQ,cr,q5,eq_true c7,f6,go_sem,seval,ak,bI,A.kind,A.xs,aD,A.isN])
        exact⟨_,rfl,by simp[zR,HS,aM,bv]⟩
      ·rw[if_pos (.inr c7)];try simp only[List.length_nil,Int.ofNat_zero,zA] at c5 c6
       (simp(disch:=first|decide|omega|(intros;exact aj rfl rfl)|simp only[aa]) only[aF,qT,zF c1,zF c2,heq,eq_true c4,zF c5,zF c6,↓bY,kW,eQ,cr,q5,eq_false c7,go_sem,seval,ak,bI,A.kind,A.xs,aD,A.isN])
       exact⟨_,rfl,by simp[zR,HS,aM,bv]⟩
   ·rw[if_neg c4] at hb4;have hbe:b=⟨m.at_,m.sz,m.su,f.bo.got⟩:=by
     obtain⟨b1,b2,b3,b4⟩:=b;simp only at hb1 hb2 hb3 hb4;rw[hb1,hb2,hb3,hb4];try rfl
    clear hb hb1 hb2 hb3 hb4;subst hbe;simp only at q5 hi hbl ⊢;by_cases c5:(((f.bo.got:Txt).length:Nat):Int)<m.sz
    ·rw[if_pos c5];try simp only[List.length_nil,Int.ofNat_zero,zA] at c5
     (simp(disch:=first|decide|omega|(intros;exact aj rfl rfl)|simp only[aa]) only[aF,qT,zF c1,zF c2,heq,eq_false c4,zT c5,go_sem,seval,ak,bI,A.kind,A.xs,aD,A.isN])
     exact⟨_,rfl,by simp[zR,HS,aM,bv]⟩
    ·rw[if_neg c5];by_cases c6:m.sz<(((f.bo.got:Txt).length:Nat):Int)
     ·rw[if_pos (.inl c6)];try simp only[List.length_nil,Int.ofNat_zero,zA] at c5 c6
      (simp(disch:=first|decide|omega|(intros;exact aj rfl rfl)|simp only[aa]) only[aF,qT,zF c1,zF c2,heq,eq_false c4,zF c5,zT c6,go_sem,seval,ak,bI,A.kind,A.xs,aD,A.isN])
      exact⟨_,rfl,by simp[zR,HS,aM,bv]⟩
     ·by_cases c7:cw f.bo.got=m.su
      ·rw[if_neg (by simp only[not_or,ne_eq,Decidable.not_not];exact⟨c6,c7⟩)]
       try simp only[List.length_nil,Int.ofNat_zero,zA] at c5 c6
       unfold nA;simp only;by_cases c8:(bf f.sto m.at_ f.bo.got).2=0
       ·have q6:=hi.2 c8;rw[if_neg (by simp[c8])]
        clear hi;generalize bf f.sto m.at_ f.bo.got=w at *;obtain⟨s,e⟩:=w;simp only[aM,ep,bv,Boo.l] at q6 c8 ⊢;have f6:∀ B1 B2 B3:Box,au call 65 [.one (.p 0 0),.agg [zI m.at_,zI m.sz,zW m.su,zS f.bo.got]] [.cells (aM { f with bo:=bv } c m),B1,B2,B3]=some (vi 0,[.cells (ep { f with sto:=s,bo:=bv } c m (.sl 5 1 0 (dM f.hd m.at_).length)),B1,B2,B3,.cells [zI m.at_,zI m.sz,zW m.su,zS f.bo.got],.arr 1 ((dM f.hd m.at_).map hE) 0]):=fun B1 B2 B3 =>
         aE (ids:=[0]) rfl rfl rfl q6 rfl
        simp only[aM,ep,bv] at f6;(simp(disch:=first|decide|omega|(intros;exact aj rfl rfl)|simp only[aa]) only[aF,qT,zF c1,zF c2,heq,eq_false c4,zF c5,zF c6,↓bY,kW,eQ,cr,q5,eq_true c7,f6,go_sem,seval,ak,bI,A.kind,A.xs,aD,A.isN])
        refine⟨_,rfl,by simp[zR],.inr ?_⟩
        simp[zR,ep]
       ·have q6:=hi.1 c8;rw[if_pos c8];clear hi;generalize bf f.sto m.at_ f.bo.got=w at *;obtain⟨s,e⟩:=w;simp only[aM,bv,Boo.l] at q6 c8 ⊢;have f6:∀ B1 B2 B3:Box,au call 65 [.one (.p 0 0),.agg [zI m.at_,zI m.sz,zW m.su,zS f.bo.got]] [.cells (aM { f with bo:=bv } c m),B1,B2,B3]=some (vi e,[.cells (aM { f with sto:=s,bo:=bv } c m),B1,B2,B3]):=fun B1 B2 B3 =>
         aE (ids:=[0]) rfl rfl rfl q6 rfl
        simp only[aM,ep,bv] at f6;(simp(disch:=first|decide|omega|(intros;exact aj rfl rfl)|simp only[aa]) only[aF,qT,zF c1,zF c2,heq,eq_false c4,zF c5,zF c6,↓bY,kW,eQ,cr,q5,eq_true c7,f6,go_sem,seval,ak,bI,A.kind,A.xs,aD,A.isN])
        exact⟨_,rfl,by simp[zR,HS,aM,bv]⟩
      ·rw[if_pos (.inr c7)];try simp only[List.length_nil,Int.ofNat_zero,zA] at c5 c6
       (simp(disch:=first|decide|omega|(intros;exact aj rfl rfl)|simp only[aa]) only[aF,qT,zF c1,zF c2,heq,eq_false c4,zF c5,zF c6,↓bY,kW,eQ,cr,q5,eq_false c7,go_sem,seval,ak,bI,A.kind,A.xs,aD,A.isN])
       exact⟨_,rfl,by simp[zR,HS,aM,bv]⟩
  ·rw[zF c3] at heq;rw[if_neg c3] at hb4 hgl;simp only[List.length_nil,Int.ofNat_zero,List.nil_append] at hb4;by_cases c4:m.ix=0
   ·rw[if_pos c4] at hb4;have hbe:b=⟨m.at_,m.sz,m.su,m.da⟩:=by
     obtain⟨b1,b2,b3,b4⟩:=b;simp only at hb1 hb2 hb3 hb4;rw[hb1,hb2,hb3,hb4];try rfl
    clear hb hb1 hb2 hb3 hb4;subst hbe;simp only at q5 hi hbl ⊢;by_cases c5:(((m.da:Txt).length:Nat):Int)<m.sz
    ·rw[if_pos c5];try simp only[List.length_nil,Int.ofNat_zero,zA] at c5
     (simp(disch:=first|decide|omega|(intros;exact aj rfl rfl)|simp only[aa]) only[aF,qT,zF c1,zF c2,heq,eq_true c4,zT c5,go_sem,seval,ak,bI,A.kind,A.xs,aD,A.isN])
     exact⟨_,rfl,by simp[zR,HS,aM,bv]⟩
    ·rw[if_neg c5];by_cases c6:m.sz<(((m.da:Txt).length:Nat):Int)
     ·rw[if_pos (.inl c6)];try simp only[List.length_nil,Int.ofNat_zero,zA] at c5 c6
      (simp(disch:=first|decide|omega|(intros;exact aj rfl rfl)|simp only[aa]) only[aF,qT,zF c1,zF c2,heq,eq_true c4,zF c5,zT c6,go_sem,seval,ak,bI,A.kind,A.xs,aD,A.isN])
      exact⟨_,rfl,by simp[zR,HS,aM,bv]⟩
     ·by_cases c7:cw m.da=m.su
      ·rw[if_neg (by simp only[not_or,ne_eq,Decidable.not_not];exact⟨c6,c7⟩)]
       try simp only[List.length_nil,Int.ofNat_zero,zA] at c5 c6
       unfold nA;simp only;by_cases c8:(bf f.sto m.at_ m.da).2=0
       ·have q6:=hi.2 c8;rw[if_neg (by simp[c8])]
        clear hi;generalize bf f.sto m.at_ m.da=w at *;obtain⟨s,e⟩:=w;simp only[aM,ep,bv,Boo.l] at q6 c8 ⊢;have f6:∀ B1 B2 B3:Box,au call 65 [.one (.p 0 0),.agg [zI m.at_,zI m.sz,zW m.su,zS m.da]] [.cells (aM { f with bo:=bv } c m),B1,B2,B3]=some (vi 0,[.cells (ep { f with sto:=s,bo:=bv } c m (.sl 5 1 0 (dM f.hd m.at_).length)),B1,B2,B3,.cells [zI m.at_,zI m.sz,zW m.su,zS m.da],.arr 1 ((dM f.hd m.at_).map hE) 0]):=fun B1 B2 B3 =>
         aE (ids:=[0]) rfl rfl rfl q6 rfl
        simp only[aM,ep,bv] at f6;(simp(disch:=first|decide|omega|(intros;exact aj rfl rfl)|simp only[aa]) only[aF,qT,zF c1,zF c2,heq,eq_true c4,zF c5,zF c6,↓bY,kW,eQ,cr,q5,eq_true c7,f6,go_sem,seval,ak,bI,A.kind,A.xs,aD,A.isN])
        refine⟨_,rfl,by simp[zR],.inr ?_⟩
        simp[zR,ep]
       ·have q6:=hi.1 c8;rw[if_pos c8];clear hi;generalize bf f.sto m.at_ m.da=w at *;obtain⟨s,e⟩:=w;simp only[aM,bv,Boo.l] at q6 c8 ⊢;have f6:∀ B1 B2 B3:Box,au call 65 [.one (.p 0 0),.agg [zI m.at_,zI m.sz,zW m.su,zS m.da]] [.cells (aM { f with bo:=bv } c m),B1,B2,B3]=some (vi e,[.cells (aM { f with sto:=s,bo:=bv } c m),B1,B2,B3]):=fun B1 B2 B3 =>
         aE (ids:=[0]) rfl rfl rfl q6 rfl
        simp only[aM,ep,bv] at f6;(simp(disch:=first|decide|omega|(intros;exact aj rfl rfl)|simp only[aa]) only[aF,qT,zF c1,zF c2,heq,eq_true c4,zF c5,zF c6,↓bY,kW,eQ,cr,q5,eq_true c7,f6,go_sem,seval,ak,bI,A.kind,A.xs,aD,A.isN])
        exact⟨_,rfl,by simp[zR,HS,aM,bv]⟩
      ·rw[if_pos (.inr c7)];try simp only[List.length_nil,Int.ofNat_zero,zA] at c5 c6
       (simp(disch:=first|decide|omega|(intros;exact aj rfl rfl)|simp only[aa]) only[aF,qT,zF c1,zF c2,heq,eq_true c4,zF c5,zF c6,↓bY,kW,eQ,cr,q5,eq_false c7,go_sem,seval,ak,bI,A.kind,A.xs,aD,A.isN])
       exact⟨_,rfl,by simp[zR,HS,aM,bv]⟩
   ·rw[if_neg c4] at hb4;have hbe:b=⟨m.at_,m.sz,m.su,[]⟩:=by
     obtain⟨b1,b2,b3,b4⟩:=b;simp only at hb1 hb2 hb3 hb4;rw[hb1,hb2,hb3,hb4];try rfl
    clear hb hb1 hb2 hb3 hb4;subst hbe;simp only at q5 hi hbl ⊢;by_cases c5:((([]:Txt).length:Nat):Int)<m.sz
    ·rw[if_pos c5];try simp only[List.length_nil,Int.ofNat_zero,zA] at c5
     (simp(disch:=first|decide|omega|(intros;exact aj rfl rfl)|simp only[aa]) only[aF,qT,zF c1,zF c2,heq,eq_false c4,zT c5,go_sem,seval,ak,bI,A.kind,A.xs,aD,A.isN])
     exact⟨_,rfl,by simp[zR,HS,aM,bv]⟩
    ·rw[if_neg c5];by_cases c6:m.sz<((([]:Txt).length:Nat):Int)
     ·rw[if_pos (.inl c6)];try simp only[List.length_nil,Int.ofNat_zero,zA] at c5 c6
      (simp(disch:=first|decide|omega|(intros;exact aj rfl rfl)|simp only[aa]) only[aF,qT,zF c1,zF c2,heq,eq_false c4,zF c5,zT c6,go_sem,seval,ak,bI,A.kind,A.xs,aD,A.isN])
      exact⟨_,rfl,by simp[zR,HS,aM,bv]⟩
     ·by_cases c7:cw []=m.su
      ·rw[if_neg (by simp only[not_or,ne_eq,Decidable.not_not];exact⟨c6,c7⟩)]
       try simp only[List.length_nil,Int.ofNat_zero,zA] at c5 c6
       unfold nA;simp only;by_cases c8:(bf f.sto m.at_ []).2=0
       ·have q6:=hi.2 c8;rw[if_neg (by simp[c8])]
        clear hi;generalize bf f.sto m.at_ []=w at *;obtain⟨s,e⟩:=w;simp only[aM,ep,bv,Boo.l] at q6 c8 ⊢;have f6:∀ B1 B2 B3:Box,au call 65 [.one (.p 0 0),.agg [zI m.at_,zI m.sz,zW m.su,.d (.s [])]] [.cells (aM { f with bo:=bv } c m),B1,B2,B3]=some (vi 0,[.cells (ep { f with sto:=s,bo:=bv } c m (.sl 5 1 0 (dM f.hd m.at_).length)),B1,B2,B3,.cells [zI m.at_,zI m.sz,zW m.su,.d (.s [])],.arr 1 ((dM f.hd m.at_).map hE) 0]):=fun B1 B2 B3 =>
         aE (ids:=[0]) rfl rfl rfl q6 rfl
        simp only[aM,ep,bv] at f6;(simp(disch:=first|decide|omega|(intros;exact aj rfl rfl)|simp only[aa]) only[aF,qT,zF c1,zF c2,heq,eq_false c4,zF c5,zF c6,↓bY,kW,eQ,cr,q5,eq_true c7,f6,go_sem,seval,ak,bI,A.kind,A.xs,aD,A.isN])
        refine⟨_,rfl,by simp[zR],.inr ?_⟩
        simp[zR,ep]
       ·have q6:=hi.1 c8;rw[if_pos c8];clear hi;generalize bf f.sto m.at_ []=w at *;obtain⟨s,e⟩:=w;simp only[aM,bv,Boo.l] at q6 c8 ⊢;have f6:∀ B1 B2 B3:Box,au call 65 [.one (.p 0 0),.agg [zI m.at_,zI m.sz,zW m.su,.d (.s [])]] [.cells (aM { f with bo:=bv } c m),B1,B2,B3]=some (vi e,[.cells (aM { f with sto:=s,bo:=bv } c m),B1,B2,B3]):=fun B1 B2 B3 =>
         aE (ids:=[0]) rfl rfl rfl q6 rfl
        simp only[aM,ep,bv] at f6;(simp(disch:=first|decide|omega|(intros;exact aj rfl rfl)|simp only[aa]) only[aF,qT,zF c1,zF c2,heq,eq_false c4,zF c5,zF c6,↓bY,kW,eQ,cr,q5,eq_true c7,f6,go_sem,seval,ak,bI,A.kind,A.xs,aD,A.isN])
        exact⟨_,rfl,by simp[zR,HS,aM,bv]⟩
      ·rw[if_pos (.inr c7)];try simp only[List.length_nil,Int.ofNat_zero,zA] at c5 c6
       (simp(disch:=first|decide|omega|(intros;exact aj rfl rfl)|simp only[aa]) only[aF,qT,zF c1,zF c2,heq,eq_false c4,zF c5,zF c6,↓bY,kW,eQ,cr,q5,eq_false c7,go_sem,seval,ak,bI,A.kind,A.xs,aD,A.isN])
       exact⟨_,rfl,by simp[zR,HS,aM,bv]⟩
def Ks (f:Fw) (m:Mg):Int:=if f.hi<m.hi then m.hi else f.hi
def nV (f:Fw) (m:Mg):Int:=if(m.rs.length:Nat)<f.sto.next-m.at_ then(m.rs.length:Nat) else f.sto.next-m.at_
def dP (f:Fw) (m:Mg):List Rec:=m.rs.drop (nV f m).toNat
def fI (f:Fw) (m:Mg):List Rec × List (List Rec):=fZ f.hd (f.sto.next+((dP f m).length:Nat)) []
def pf (f:Fw) (c:Cnf) (m:Mg):Fw × Int :=
 if m.rs.length=0 then({ f with hi:=Ks f m },0) else
 if f.sto.next<m.at_ then({ f with hi:=Ks f m,hd:=Cw f.hd m.rs f.sto.next c.held (c.window-c.batch) },0) else
  ({ f with hi:=Ks f m,hd:=(fI f m).2,sto:=(dQ f.sto c (dP f m++(fI f m).1)).1 },(dQ f.sto c (dP f m++(fI f m).1)).2)
theorem Fu {F:Nat} {rows:List (List D)} {e:Int} {f1 f2:Fw} {c:Cnf} {m:Mg} (h:call F [.one (.p 0 0),vl rows] [.cells (aM f1 c m)]=some (vi e,[.cells (aM f2 c m)])):au call F [.one (.p 0 0),vl rows] [.cells (aM f1 c m)]=some (vi e,[.cells (aM f2 c m)]) :=
 aE (ids:=[0]) rfl rfl rfl h rfl
theorem xS {k u n:Nat} (f:Fw) (c:Cnf) (m:Mg) (hg:Go1 k u n f.sto) (hh:okH f.hd) (hb:m.rs.length=0∨okB m.rs) (hm:0<=m.at_∧m.at_<=1099511627776) (hnx:f.sto.next<=1000000) (hseg:1<=c.seg)
  (hw:(0<=c.window∧c.window<=1000000)∧(0<=c.batch∧c.batch<=1000000)) (hl:(dP f m++(fI f m).1).length<=100) (hr:∀ r∈dP f m++(fI f m).1,r.ok) (hk:k<=100000) (hu:u<=700000) (hn:n<=900) :
  call 37 [.one (.p 0 0)] [.cells (aM f c m)]=some (vi (pf f c m).2,[.cells (aM (pf f c m).1 c m)]):=by
 have hn0:=hg.ok.next;unfold pf;by_cases c1:m.rs.length=0
 ·rw[if_pos c1];apply ah Rs rfl;simp only[aM,Ks];(simp(disch:=first|decide|omega|(intros;exact aj rfl rfl)|simp only[aa]) only[aF,Pp,c1,zM,go_sem,seval,ak,bI,A.kind,A.xs,aD,A.isN])
  simp[zR]
 ·rw[if_neg c1];have hob:=hb.resolve_left c1;have hol:=hob.len;have c1':¬ ((m.rs.length:Nat):Int)=0:=by omega
  by_cases c2:f.sto.next<m.at_
  ·rw[if_pos c2];have q:=Fo f.hd hh m.rs hb f.sto.next c.held (c.window-c.batch);apply ah Rs rfl;simp only[aM,Ks];generalize Cw f.hd m.rs f.sto.next c.held (c.window-c.batch)=G at *;(simp(disch:=first|decide|omega|(intros;exact aj rfl rfl)|simp only[aa]) only[aF,Pp,eq_false c1',zT c2,q,zM,go_sem,seval,ak,bI,A.kind,A.xs,aD,A.isN])
   simp[zR]
  ·rw[if_neg c2];have hsk:0<=nV f m∧nV f m<=(m.rs.length:Nat):=by unfold nV;split <;> omega
   have hdr:List.drop (nV f m).toNat (m.rs.map Rec.enc)=(dP f m).map Rec.enc:=by unfold dP;rw[List.map_drop]
   have hnl:(dP f m).length<=100:=by unfold dP;rw[zH];omega
   have hsf:(if(m.rs.length:Nat)<f.sto.next-m.at_ then((m.rs.length:Nat):Int) else f.sto.next-m.at_)=nV f m:=rfl
   have q2:=Cq f.hd hh (f.sto.next+((dP f m).length:Nat)) (by omega)
   have hokr:aR 3 (m.rs.map Rec.enc)=true:=aV Rec.len _;have hmt:fZ f.hd (f.sto.next+((dP f m).length:Nat)) []=fI f m:=rfl;rw[hmt] at q2;have q3:=Fu (ww { f with hi:=Ks f m,hd:=(fI f m).2 } c m hg (dP f m++(fI f m).1) (by omega) hr hseg (by omega) (by omega) (by omega))
   have hht:(if f.hi<m.hi then m.hi else f.hi)=Ks f m:=rfl
   rw[zA] at hl;generalize Ks f m=hiv at *;generalize nV f m=sk at *;generalize dP f m=nw at *;generalize fI f m=mo at *;obtain⟨mo1,mo2⟩:=mo;simp only at q2 q3 hl ⊢;generalize dQ f.sto c (nw++mo1)=z at *;obtain⟨s,e⟩:=z;simp only[aM,List.map_append] at q3 ⊢;have hok1:aR 3 (nw.map Rec.enc)=true:=aV Rec.len _;have hok2:aR 3 (mo1.map Rec.enc)=true:=aV Rec.len _;have htk:List.take nw.length (nw.map Rec.enc)=nw.map Rec.enc:=zL (by simp)
   have hln:(nw.map Rec.enc).length=nw.length:=by simp
   apply ah Rs rfl;(simp(disch:=first|decide|omega|(intros;exact aj rfl rfl)|simp only[aa]) only[aF,Pp,hht,eq_false c1',zF c2,hsf,hokr,hdr,hln,q2,hok1,hok2,htk,q3,zM,go_sem,seval,ak,bI,A.kind,A.xs,aD,A.isN])
   simp[zR]
def dC (f:Fw) (c:Cnf):Fw:={ f with wa:=c.beat }
def di (f:Fw) (c:Cnf) (m:Mg):Fw × Int:=if m.kd=2 then pf (dC f c) c m else lV (dC f c) m
def tW (f g:Fw):Bool:=decide (g.sto.next≠f.sto.next) || decide ((f.bo.got.length:Int)<(g.bo.got.length:Nat))
def p7 (f:Fw) (r:Fw × Int):V:=.tup [(true,r.1.l),(false,[zB (tW f r.1)]),(false,[zI r.2])]
theorem zq {k u n:Nat} (f:Fw) (c:Cnf) (m:Mg) (hR:call 36 [.agg m.l] []=some (vb true,[])) (h1:m.kd=2) (h2:m.tt=f.id_) (h3:m.pe=f.ic) (hg:Go1 k u n f.sto) (hh:okH f.hd) (hb:m.rs.length=0∨okB m.rs) (hm:0<=m.at_∧m.at_<=1099511627776) (hnx:f.sto.next<=1000000) (hseg:1<=c.seg)
  (hw:(0<=c.window∧c.window<=1000000)∧(0<=c.batch∧c.batch<=1000000)) (hl:(dP f m++(fI f m).1).length<=100) (hr:∀ r∈dP f m++(fI f m).1,r.ok) (hk:k<=100000) (hu:u<=700000) (hn:n<=900) :
  call 12 [.agg f.l,.agg c.l,.agg m.l] []=some (p7 f (di f c m),[]):=by
 have q:=xS (dC f c) c m hg hh hb hm hnx hseg hw hl hr hk hu hn;unfold di;rw[if_pos h1];obtain⟨Z,hZ⟩:∃ Z,Z=pf (dC f c) c m:=⟨_,rfl⟩;rw[<- hZ] at q ⊢;obtain⟨g,e⟩:=Z;clear hZ;unfold p7 tW;have q2:∀ B0 B1 B2 B3:Box,au call 37 [.one (.p 4 0)] [B0,B1,B2,B3,.cells (aM (dC f c) c m)]=some (vi e,[B0,B1,B2,B3,.cells (aM g c m)]):=fun B0 B1 B2 B3 =>
  aE (ids:=[4]) rfl rfl rfl q rfl
 simp only[aM,dC] at q2;simp only[Fw.l,Cnf.l,Mg.l,h1,h2,h3] at hR q2 ⊢;clear q;apply ah PA rfl;by_cases c1:g.sto.next=f.sto.next
 ·by_cases c2:((f.bo.got.length:Nat):Int)<(g.bo.got.length:Nat)
  ·(simp(disch:=first|decide|omega|(intros;exact aj rfl rfl)|simp only[aa]) only[aF,HH,hR,q2,eq_true c1,zT c2,go_sem,seval,ak,bI,A.kind,A.xs,aD,A.isN])
   try simp[zR,c1,c2]
  ·(simp(disch:=first|decide|omega|(intros;exact aj rfl rfl)|simp only[aa]) only[aF,HH,hR,q2,eq_true c1,zF c2,go_sem,seval,ak,bI,A.kind,A.xs,aD,A.isN])
   try simp[zR,c1,c2]
 ·(simp(disch:=first|decide|omega|(intros;exact aj rfl rfl)|simp only[aa]) only[aF,HH,hR,q2,eq_false c1,go_sem,seval,ak,bI,A.kind,A.xs,aD,A.isN])
  try simp[zR,c1]
theorem A2 {k u:Nat} (f:Fw) (c:Cnf) (m:Mg) (hR:call 36 [.agg m.l] []=some (vb true,[])) (h1:m.kd=3) (h2:m.tt=f.id_) (h3:m.pe=f.ic) (h:okS k u f.sto) (hk:k<=700000) (hu:u<=1000000) (hh:okH f.hd) (hm : -9223372036854775808<=m.at_∧m.at_<9223372036854775808) (hx:f.bo.got.length+m.da.length<=20000) (hlen:(lV (dC f c) m).1.hd.length<=1000) :
  call 12 [.agg f.l,.agg c.l,.agg m.l] []=some (p7 f (di f c m),[]):=by
 obtain⟨⟨v,H⟩,q,hv,hs⟩:=w5 (dC f c) c m h hk hu hh hm hx;unfold di;rw[if_neg (by omega)]
 obtain⟨Z,hZ⟩:∃ Z,Z=lV (dC f c) m:=⟨_,rfl⟩;rw[<- hZ] at hv hs hlen ⊢;obtain⟨g,e⟩:=Z;clear hZ;simp only at hv hs hlen;subst hv;unfold p7 tW;rcases hs with rfl|⟨B1,B2,B3,B4,rfl⟩
 ·have q2:∀ B0 B1 B2 B3:Box,au call 38 [.one (.p 4 0)] [B0,B1,B2,B3,.cells (aM (dC f c) c m)]=some (vi e,[B0,B1,B2,B3,.cells (aM g c m)]):=fun B0 B1 B2 B3 =>
   aE (ids:=[4]) rfl rfl rfl q rfl
  simp only[aM,dC] at q2;simp only[Fw.l,Cnf.l,Mg.l,h1,h2,h3] at hR q2 ⊢;clear q;apply ah PA rfl;by_cases c1:g.sto.next=f.sto.next
  ·by_cases c2:((f.bo.got.length:Nat):Int)<(g.bo.got.length:Nat)
   ·(simp(disch:=first|decide|omega|(intros;exact aj rfl rfl)|simp only[aa]) only[aF,HH,hR,q2,eq_true c1,zT c2,go_sem,seval,ak,bI,A.kind,A.xs,aD,A.isN])
    try simp[zR,c1,c2]
   ·(simp(disch:=first|decide|omega|(intros;exact aj rfl rfl)|simp only[aa]) only[aF,HH,hR,q2,eq_true c1,zF c2,go_sem,seval,ak,bI,A.kind,A.xs,aD,A.isN])
    try simp[zR,c1,c2]
  ·(simp(disch:=first|decide|omega|(intros;exact aj rfl rfl)|simp only[aa]) only[aF,HH,hR,q2,eq_false c1,go_sem,seval,ak,bI,A.kind,A.xs,aD,A.isN])
   try simp[zR,c1]
 ·obtain⟨q2,hq2⟩:∃ C:List Box,C=[B1,B2,B3,B4].map (Box.ren fun j=>if j<1 then[4][j]? else some (5+(j-1))):=⟨_,rfl⟩
  obtain⟨C1,C2,C3,C4,rfl⟩:∃ C1 C2 C3 C4,q2=[C1,C2,C3,C4]:=⟨_,_,_,_,hq2⟩;simp only[List.map_cons,List.map_nil,List.cons.injEq,and_true] at hq2;obtain⟨e1,e2,e3,e4⟩:=hq2;have q2:∀ B0 B1 B2 B3:Box,au call 38 [.one (.p 4 0)] [B0,B1,B2,B3,.cells (aM (dC f c) c m)]=some (vi e,[B0,B1,B2,B3,.cells [zI g.id_,zI g.ic,.d (.l (g.sto.disk.files.map Fil.enc)),zI g.sto.disk.cap,zB g.sto.disk.armed,zI g.sto.disk.left,zB g.sto.disk.down,zI g.sto.ver,.d (.l (g.sto.segs.map Seg.enc)),zI g.sto.next,zI g.sto.sure,zI g.sto.size,zW g.sto.sum,zI g.sq,zI g.wa,.sl 9 1 0 g.hd.length,zI g.bo.at_,zI g.bo.sz,zW g.bo.su,zS g.bo.got,zI g.hi,zI c.nodes,zI c.seg,zI c.keep,zI c.count,zI c.batch,zI c.most,zI c.window,zI c.held,zI c.chunk,zI c.pending,zI c.links,zI c.beat,zI c.retry,zI c.lease,zI c.top,zI m.kd,zI m.fr,zI m.tt,zI m.ic,zI m.pe,zI m.sq,zI m.at_,zI m.wi,zI m.hi,zI m.wa,zI m.ix,zI m.sz,zW m.su,zS m.da,.d (.l (m.rs.map Rec.enc))],C1,C2,C3,C4,.arr 1 (g.hd.map hE) 0]):=fun B0 B1 B2 B3=>by
   rw[e1,e2,e3,e4];exact aE (ids:=[4]) rfl rfl rfl q rfl
  simp only[aM,dC] at q2;simp only[Fw.l,Cnf.l,Mg.l,h1,h2,h3] at hR q2 ⊢;clear q;have htk:List.take g.hd.length (g.hd.map hE)=g.hd.map hE:=zL (by simp)
  have hhl:(g.hd.map hE).length=g.hd.length:=by simp
  clear e1 e2 e3 e4;apply ah PA rfl;by_cases c1:g.sto.next=f.sto.next
  ·by_cases c2:((f.bo.got.length:Nat):Int)<(g.bo.got.length:Nat)
   ·(simp(disch:=first|decide|omega|(intros;exact aj rfl rfl)|simp only[aa]) only[aF,HH,hR,q2,eq_true c1,zT c2,htk,hhl,↓mC,wc,go_sem,seval,ak,bI,A.kind,A.xs,aD,A.isN])
    try simp[zR,c1,c2]
   ·(simp(disch:=first|decide|omega|(intros;exact aj rfl rfl)|simp only[aa]) only[aF,HH,hR,q2,eq_true c1,zF c2,htk,hhl,↓mC,wc,go_sem,seval,ak,bI,A.kind,A.xs,aD,A.isN])
    try simp[zR,c1,c2]
  ·(simp(disch:=first|decide|omega|(intros;exact aj rfl rfl)|simp only[aa]) only[aF,HH,hR,q2,eq_false c1,htk,hhl,↓mC,wc,go_sem,seval,ak,bI,A.kind,A.xs,aD,A.isN])
   try simp[zR,c1]
def ul (k0 k1 k2 k3 k4 k5 k6 k7 k8 k9 k10 k11:Nat):Cnf:={ nodes:=1+(k0 % 4:Nat),seg:=20+(k1 % 80:Nat),keep:=(k2:Nat),count:=1+(k3 % 40:Nat),batch:=100+(k4 % 100:Nat),most:=1+(k5 % 4:Nat),window:=100+((k4 % 100:Nat):Int)+(k5:Nat),held:=(k6 % 4:Nat),chunk:=16+(k7 % 40:Nat),pending:=1+(k8 % 8:Nat),links:=1+(k9 % 6:Nat),beat:=1+(k10 % 3:Nat),retry:=1+((k10 % 3:Nat):Int)+(k10 % 5:Nat),lease:=1+(k11 % 20:Nat),top:=if 240<k8 then(if k3 % 30=0 then 1 else(k3 % 30:Nat)) else 1099511627776 }
def Ki (k0 k1 k2 k3 k4 k5 k6 k7 k8 k9 k10 k11:Nat):List L:=[zU (k0:Nat),zU (k1:Nat),zU (k2:Nat),zU (k3:Nat),zU (k4:Nat),zU (k5:Nat),zU (k6:Nat),zU (k7:Nat),zU (k8:Nat),zU (k9:Nat),zU (k10:Nat),zU (k11:Nat)]
theorem f8 (a b:Nat) (hb:0<b):((a:Nat):Int).tmod ((b:Nat):Int)=((a % b:Nat):Int):=by rw[Int.tmod_eq_emod_of_nonneg (by omega)];omega
theorem uH (k0 k1 k2 k3 k4 k5 k6 k7 k8 k9 k10 k11:Nat) (h0:k0<256) (h1:k1<256) (h2:k2<256) (h3:k3<256) (h4:k4<256) (h5:k5<256) (h6:k6<256) (h7:k7<256) (h8:k8<256) (h9:k9<256) (h10:k10<256) (h11:k11<256):call 8 [.agg (Ki k0 k1 k2 k3 k4 k5 k6 k7 k8 k9 k10 k11)] []=some (.agg (ul k0 k1 k2 k3 k4 k5 k6 k7 k8 k9 k10 k11).l,[]):=by
 have r0:((k0:Nat):Int).tmod 4=((k0 % 4:Nat):Int):=f8 k0 4 (by decide)
 have r1:((k1:Nat):Int).tmod 80=((k1 % 80:Nat):Int):=f8 k1 80 (by decide)
 have r2:((k3:Nat):Int).tmod 40=((k3 % 40:Nat):Int):=f8 k3 40 (by decide)
 have r3:((k4:Nat):Int).tmod 100=((k4 % 100:Nat):Int):=f8 k4 100 (by decide)
 have r4:((k5:Nat):Int).tmod 4=((k5 % 4:Nat):Int):=f8 k5 4 (by decide)
 have r5:((k6:Nat):Int).tmod 4=((k6 % 4:Nat):Int):=f8 k6 4 (by decide)
 have r6:((k7:Nat):Int).tmod 40=((k7 % 40:Nat):Int):=f8 k7 40 (by decide)
 have r7:((k8:Nat):Int).tmod 8=((k8 % 8:Nat):Int):=f8 k8 8 (by decide)
 have r8:((k9:Nat):Int).tmod 6=((k9 % 6:Nat):Int):=f8 k9 6 (by decide)
 have r9:((k10:Nat):Int).tmod 3=((k10 % 3:Nat):Int):=f8 k10 3 (by decide)
 have r10:((k10:Nat):Int).tmod 5=((k10 % 5:Nat):Int):=f8 k10 5 (by decide)
 have r11:((k11:Nat):Int).tmod 20=((k11 % 20:Nat):Int):=f8 k11 20 (by decide)
 have r12:((k3:Nat):Int).tmod 30=((k3 % 30:Nat):Int):=f8 k3 30 (by decide)
 have e:(ul k0 k1 k2 k3 k4 k5 k6 k7 k8 k9 k10 k11).l=[zI (1+(k0 % 4:Nat)),zI (20+(k1 % 80:Nat)),zI (k2:Nat),zI (1+(k3 % 40:Nat)),zI (100+(k4 % 100:Nat)),zI (1+(k5 % 4:Nat)),zI (100+((k4 % 100:Nat):Int)+(k5:Nat)),zI (k6 % 4:Nat),zI (16+(k7 % 40:Nat)),zI (1+(k8 % 8:Nat)),zI (1+(k9 % 6:Nat)),zI (1+(k10 % 3:Nat)),zI (1+((k10 % 3:Nat):Int)+(k10 % 5:Nat)),zI (1+(k11 % 20:Nat)),zI (if 240<k8 then(if k3 % 30=0 then 1 else(k3 % 30:Nat)) else 1099511627776)]:=rfl
 rw[e];unfold Ki;have l0:k0 % 4<4:=Nat.mod_lt _ (by decide)
 have l1:k1 % 80<80:=Nat.mod_lt _ (by decide)
 have l2:k3 % 40<40:=Nat.mod_lt _ (by decide)
 have l3:k4 % 100<100:=Nat.mod_lt _ (by decide)
 have l4:k5 % 4<4:=Nat.mod_lt _ (by decide)
 have l5:k6 % 4<4:=Nat.mod_lt _ (by decide)
 have l6:k7 % 40<40:=Nat.mod_lt _ (by decide)
 have l7:k8 % 8<8:=Nat.mod_lt _ (by decide)
 have l8:k9 % 6<6:=Nat.mod_lt _ (by decide)
 have l9:k10 % 3<3:=Nat.mod_lt _ (by decide)
 have l10:k10 % 5<5:=Nat.mod_lt _ (by decide)
 have l11:k11 % 20<20:=Nat.mod_lt _ (by decide)
 have l12:k3 % 30<30:=Nat.mod_lt _ (by decide)
 apply ah s8 rfl;by_cases c:240<k8
 ·have c':(240:Int)<(k8:Nat):=by omega
  rw[if_pos c];by_cases c2:k3 % 30=0
  ·rw[if_pos c2];have c3:¬ (1:Int)<((k3 % 30:Nat):Int):=by omega
   have c4:(if((k3 % 30:Nat):Int)<1 then(1:Int) else((k3 % 30:Nat):Int))=1:=by rw[if_pos (by omega)]
   (simp(disch:=first|decide|omega|(intros;exact aj rfl rfl)|simp only[aa]) only[aF,a8,r0,r1,r2,r3,r4,r5,r6,r7,r8,r9,r10,r11,r12,zT c',c4,go_sem,seval,ak])
   try simp[trim]
  ·rw[if_neg c2];have c4:(if((k3 % 30:Nat):Int)<1 then(1:Int) else((k3 % 30:Nat):Int))=((k3 % 30:Nat):Int):=by rw[if_neg (by omega)]
   (simp(disch:=first|decide|omega|(intros;exact aj rfl rfl)|simp only[aa]) only[aF,a8,r0,r1,r2,r3,r4,r5,r6,r7,r8,r9,r10,r11,r12,zT c',c4,go_sem,seval,ak])
   try simp[trim]
 ·have c':¬ (240:Int)<(k8:Nat):=by omega
  rw[if_neg c];(simp(disch:=first|decide|omega|(intros;exact aj rfl rfl)|simp only[aa]) only[aF,a8,r0,r1,r2,r3,r4,r5,r6,r7,r8,r9,r10,r11,r12,zF c',go_sem,seval,ak])
  try simp[trim]
def bw (data:List Txt):List Rec:=data.mapIdx fun i d=>⟨(i:Nat),(i:Nat),d⟩
def eX (n:Txt):List D:=[.s n]
theorem iA (data:List Txt):(bw data).length=data.length:=by simp[bw]
theorem AV (data:List Txt) (i:Nat) (h:i<data.length):(bw data).take (i+1)=(bw data).take i++[⟨(i:Nat),(i:Nat),data[i]⟩]:=by
 rw[zO (by rw[iA];exact h)]
 simp[bw]
theorem nE (data:List Txt) (hl:data.length<=1000):call 9 [vl (data.map eX)] []=some (vl ((bw data).map Rec.enc),[]):=by
 apply ah s9 rfl;(simp(disch:=first|decide|omega|(intros;exact aj rfl rfl)|simp only[aa]) only[aF,a9,go_sem,seval,ak])
 refine aB (m:=0) (σ:=Nat) (fun i=>data.length-i) (fun i=>i<=data.length) (fun i=>[vl (data.map eX),V.one (.sl 0 3 0 ((bw data).take i).length),vi i]) (fun i=>[.arr 3 (((bw data).take i).map Rec.enc) 0])
  (fun _=>(vl ((bw data).map Rec.enc),[])) ?_ 0 (zP _) _ _ cm
 intro i h1 R hR;by_cases c:i<data.length
 ·have hc:(i:Int)<(data.length:Int):=by omega
  have g1:(data.map eX)[i]?=some [.s data[i]]:=by rw[zG,zE c];rfl
  have hK:=hR (i+1) (by omega) (by omega)
  have hml:(((bw data).take i).map Rec.enc).length=((bw data).take i).length:=by simp
  have hil:((bw data).take i).length<=1000:=by rw[zQ,iA];omega
  rw[AV data i c] at hK;simp only[zA,List.length_cons,List.length_nil,Nat.zero_add,List.map_append,List.map_cons,List.map_nil,Rec.enc] at hK;clear hR;generalize (bw data).take i=Q at *;generalize data[i]=d at *;(simp(disch:=first|decide|omega|(intros;exact aj rfl rfl)|simp only[aa]) only[aF,KZ,zT hc,g1,hml,zM,go_sem,seval,ak])
  exact hK _ _ cm
 ·have hc:¬ (i:Int)<(data.length:Int):=by omega
  have hil:i=data.length:=by omega
  have ht:(bw data).take i=bw data:=zL (by rw[iA];omega)
  rw[ht];have htk:List.take (bw data).length ((bw data).map Rec.enc)=(bw data).map Rec.enc:=zL (by simp)
  have hml:((bw data).map Rec.enc).length=(bw data).length:=by simp
  (simp(disch:=first|decide|omega|(intros;exact aj rfl rfl)|simp only[aa]) only[aF,KZ,a9,zF hc,htk,hml,zM,go_sem,seval,ak])
  try simp[trim]
def pg (id_ ic:Int) (s:Sto) (c:Cnf):Fw:=⟨id_,ic,s,0,c.beat,[],bv,0⟩
theorem sK (id_ ic:Int) (s:Sto) (c:Cnf):call 11 [vi id_,vi ic,.agg s.l,.agg c.l] []=some (.agg (pg id_ ic s c).l,[]):=by
 have hcell:s.l=[.d (.l (s.disk.files.map Fil.enc)),zI s.disk.cap,zB s.disk.armed,zI s.disk.left,zB s.disk.down,zI s.ver,.d (.l (s.segs.map Seg.enc)),zI s.next,zI s.sure,zI s.size,zW s.sum]:=rfl;rw[hcell];simp only[pg,Fw.l,Cnf.l,bv,List.map_nil];apply ah So rfl;(simp(disch:=first|decide|omega|(intros;exact aj rfl rfl)|simp only[aa]) only[aF,RE,go_sem,seval,ak])
 try simp[trim]
end Go.Proofs.YtgoifbjgmgbihaaGreat
