import Derived.Test.YtgoifbjgmgbihaaGreatT06
import Derived.Test.YtgoifbjgmgbihaaGreatT02
import Derived.Test.YtgoifbjgmgbihaaGreatT05
import Derived.Test.YtgoifbjgmgbihaaGreatT03
set_option linter.unusedSimpArgs false
set_option linter.unusedVariables false
set_option maxRecDepth 20000
set_option maxHeartbeats 16000000
namespace Go.Proofs.YtgoifbjgmgbihaaGreat
open Go.Vi
abbrev LR:=(Dsk × Int) × Nat × Nat × Nat
def u4 (n g:Txt) (m:Man) (d:Dsk):LR:=if(bR m (d,0)).2=9 then(cX [g,n] (bR m (d,0)).1,0,1,2) else(bR m (d,0),0,1,0)
def u3 (n g:Txt) (m:Man) (d:Dsk):LR:=if(am d (bh d.files g)).2≠0 then(am d (bh d.files g),0,0,0) else u4 n g m (am d (bh d.files g)).1
def u2 (n g:Txt) (m:Man) (d:Dsk):LR:=if(am d (cq d.files n)).2≠0 then(am d (cq d.files n),0,0,0) else u3 n g m (am d (cq d.files n)).1
def u1 (n g x:Txt) (m:Man) (d:Dsk):LR:=if(am d (bH d.files d.cap n x)).2=9 then(cX [n] (am d (bH d.files d.cap n x)).1,1,0,0) else if(am d (bH d.files d.cap n x)).2≠0 then(am d (bH d.files d.cap n x),0,0,0) else u2 n g m (am d (bH d.files d.cap n x)).1
def u0 (n g x:Txt) (m:Man) (d:Dsk):LR:=if(am d (bh d.files n)).2≠0 then(am d (bh d.files n),0,0,0) else u1 n g x m (am d (bh d.files n)).1
def uT (n g x:Txt) (m:Man):Nat->Dsk->LR
 | 0,d=>u0 n g x m d
 | 1,d=>u1 n g x m d
 | 2,d=>u2 n g m d
 | 3,d=>u3 n g m d
 | 4,d=>u4 n g m d
 | _,d=>((d,0),0,1,0)
def HI (n g x:Txt) (ver at_:Int) (f1 f2 f3:Nat):Hp:=[.cells [.f 123 [1],.ns,.f 124 [1,2],.sl 3 1 0 1,.f 125 [1],.ns,.f 126 [4],.ns,.f 127 [5],.sl 7 1 0 2],.cells [zS n],.cells [zS x],.arr 1 [[.s n]] f1,.cells [zS g],.cells [.ns,zI 0,zB false,zI 0,zB false,zI ver,.sl 6 3 0 1,zI at_,zI at_,zI x.length,zW (cw x)],.arr 3 [[.i .i64 at_,.i .i64 0,.i .i64 0]] f2,.arr 1 [[.s g],[.s n]] f3]
theorem DS {k u:Nat} (d:Dsk) (hd:okN k u d) (hk:k<=800000) (hu:u<=800000000000) (n g x:Txt) (hx:x.length<=20000) (ver at_:Int) :
  call 122 [.agg d.l,.one (.sp 0 5)] (HI n g x ver at_ 0 0 0)=some (aP (u0 n g x (fe ver at_ x).man d).1,HI n g x ver at_ (u0 n g x (fe ver at_ x).man d).2.1 (u0 n g x (fe ver at_ x).man d).2.2.1 (u0 n g x (fe ver at_ x).man d).2.2.2):=by
 obtain⟨Z,hZ⟩:∃ Z,Z=uT n g x (fe ver at_ x).man 0 d:=⟨_,rfl⟩;have hZ0:u0 n g x (fe ver at_ x).man d=Z:=hZ.symm;rw[hZ0];clear hZ0;obtain⟨⟨⟨zfl,zcp,zar,zlf,zdn⟩,ze⟩,F1,F2,F3⟩:=Z;simp only[aP,Dsk.l,HI];apply ah Ny rfl;obtain⟨dfl,dcp,dar,dlf,ddn⟩:=d;(simp(disch:=first|decide|omega|(intros;exact aj rfl rfl)|simp only[aa]) only[aF,F8,go_sem,seval,ak])
 refine aB (m:=8) (σ:=Nat × Dsk) (fun t=>5-t.1) (fun t=>t.1<=5∧okN (k+2*t.1) (u+30000*t.1) t.2∧uT n g x (fe ver at_ x).man t.1 t.2=((⟨zfl,zcp,zar,zlf,zdn⟩,ze),F1,F2,F3)) (fun t=>[V.one (.p 8 0),V.one (.p 9 0),V.one (.sp 0 5),vi 5,vi t.1])
  (fun t=>[.cells [.f 123 [1],.ns,.f 124 [1,2],.sl 3 1 0 1,.f 125 [1],.ns,.f 126 [4],.ns,.f 127 [5],.sl 7 1 0 2],.cells [zS n],.cells [zS x],.arr 1 [[.s n]] 0,.cells [zS g],.cells [.ns,zI 0,zB false,zI 0,zB false,zI ver,.sl 6 3 0 1,zI at_,zI at_,zI x.length,zW (cw x)],.arr 3 [[.i .i64 at_,.i .i64 0,.i .i64 0]] (if t.1=5 then 1 else 0),.arr 1 [[.s g],[.s n]] 0,.cells [.d (.l (t.2.files.map Fil.enc)),zI t.2.cap,zB t.2.armed,zI t.2.left,zB t.2.down],.cells [.ns,zI 0,zB false,zI 0,zB false]])
  (fun _=>(V.tup [(true,[.d (.l (zfl.map Fil.enc)),zI zcp,zB zar,zI zlf,zB zdn]),(false,[zI ze])],([.cells [.f 123 [1],.ns,.f 124 [1,2],.sl 3 1 0 1,.f 125 [1],.ns,.f 126 [4],.ns,.f 127 [5],.sl 7 1 0 2],.cells [zS n],.cells [zS x],.arr 1 [[.s n]] F1,.cells [zS g],.cells [.ns,zI 0,zB false,zI 0,zB false,zI ver,.sl 6 3 0 1,zI at_,zI at_,zI x.length,zW (cw x)],.arr 3 [[.i .i64 at_,.i .i64 0,.i .i64 0]] F2,.arr 1 [[.s g],[.s n]] F3]:Hp))) ?_ (0,⟨dfl,dcp,dar,dlf,ddn⟩) ⟨zP _,hd,hZ.symm⟩ _ _ ?_
 rotate_left
 ·exact cm
 rintro⟨i,⟨fl,cp,ar,lf,dn⟩⟩ ⟨h1,h2,h3⟩ R hR;simp only at h1 h2 h3 ⊢;have hok:=h2.ok (by omega) (by omega)
 rcases(by omega:i=0∨i=1∨i=2∨i=3∨i=4∨i=5) with rfl|rfl|rfl|rfl|rfl|rfl
 ·have q1:=HV ⟨fl,cp,ar,lf,dn⟩ hok n;have kk:=dY (s:=(⟨fl,cp,ar,lf,dn⟩,0)) h2 n;rw[show bL n (⟨fl,cp,ar,lf,dn⟩,0)=am ⟨fl,cp,ar,lf,dn⟩ (bh fl n) from bn _ _] at kk
  simp only[uT,u0] at h3;simp only at q1;generalize am ⟨fl,cp,ar,lf,dn⟩ (bh fl n)=q at *;have hb:=iv q.1 kk (by omega) (by omega) [] (by simp)
  have kq:=kk.up (k':=k+2*(0+1)) (u':=u+30000*(0+1)) (by omega) (by omega)
  generalize hbt:cX [] q.1=bt at *;obtain⟨⟨qfl,qcp,qar,qlf,qdn⟩,qe⟩:=q;obtain⟨⟨bfl,bcp,bar,blf,bdn⟩,be⟩:=bt;simp only[aP,Dsk.l,List.map_cons,List.map_nil,eS] at q1 hb h3;have g1:au call 123 [.agg [.d (.l (fl.map Fil.enc)),zI cp,zB ar,zI lf,zB dn],.one (.p 1 0)] [.cells [.f 123 [1],.ns,.f 124 [1,2],.sl 3 1 0 1,.f 125 [1],.ns,.f 126 [4],.ns,.f 127 [5],.sl 7 1 0 2],.cells [zS n],.cells [zS x],.arr 1 [[.s n]] 0,.cells [zS g],.cells [.ns,zI 0,zB false,zI 0,zB false,zI ver,.sl 6 3 0 1,zI at_,zI at_,zI x.length,zW (cw x)],.arr 3 [[.i .i64 at_,.i .i64 0,.i .i64 0]] 0,.arr 1 [[.s g],[.s n]] 0,.cells [.d (.l (fl.map Fil.enc)),zI cp,zB ar,zI lf,zB dn],.cells [.ns,zI 0,zB false,zI 0,zB false],.cells [.f 123 [1],.ns]]=some (V.tup [(true,[.d (.l (qfl.map Fil.enc)),zI qcp,zB qar,zI qlf,zB qdn]),(false,[zI qe])],[.cells [.f 123 [1],.ns,.f 124 [1,2],.sl 3 1 0 1,.f 125 [1],.ns,.f 126 [4],.ns,.f 127 [5],.sl 7 1 0 2],.cells [zS n],.cells [zS x],.arr 1 [[.s n]] 0,.cells [zS g],.cells [.ns,zI 0,zB false,zI 0,zB false,zI ver,.sl 6 3 0 1,zI at_,zI at_,zI x.length,zW (cw x)],.arr 3 [[.i .i64 at_,.i .i64 0,.i .i64 0]] 0,.arr 1 [[.s g],[.s n]] 0,.cells [.d (.l (fl.map Fil.enc)),zI cp,zB ar,zI lf,zB dn],.cells [.ns,zI 0,zB false,zI 0,zB false],.cells [.f 123 [1],.ns]]):=aE (ids:=[1]) rfl rfl rfl q1 rfl;by_cases c2:qe=0
  ·subst c2;rw[if_neg (by simp)] at h3
   have hR':=hR (0+1,⟨qfl,qcp,qar,qlf,qdn⟩) (by simp only[];omega) ⟨by simp only[];omega,kq,h3⟩
   (simp(disch:=first|decide|omega|(intros;exact aj rfl rfl)|simp only[aa]) only[aF,dp,g1,go_sem,seval,ak,bI,A.kind,A.xs,aD,A.isN])
   exact hR' _ _ cm
  ·rw[if_pos c2] at h3;cases h3;have hbt2:(⟨⟨bfl,bcp,bar,blf,bdn⟩,be⟩:Dsk × Int)=(⟨zfl,zcp,zar,zlf,zdn⟩,9):=hbt.symm;cases hbt2;by_cases c9:ze=9
   ·subst c9;(simp(disch:=first|decide|omega|(intros;exact aj rfl rfl)|simp only[aa]) only[aF,dp,g1,hb,go_sem,seval,ak,bI,A.kind,A.xs,aD,A.isN])
    try simp[zR]
   ·(simp(disch:=first|decide|omega|(intros;exact aj rfl rfl)|simp only[aa]) only[aF,dp,g1,c2,c9,go_sem,seval,ak,bI,A.kind,A.xs,aD,A.isN])
    try simp[zR]
 ·have q1:=H4 ⟨fl,cp,ar,lf,dn⟩ hok n x (by omega)
  have kk:=iZ (s:=(⟨fl,cp,ar,lf,dn⟩,0)) h2 n x;rw[show fD n x (⟨fl,cp,ar,lf,dn⟩,0)=am ⟨fl,cp,ar,lf,dn⟩ (bH fl cp n x) from bn _ _] at kk
  simp only[uT,u1] at h3;simp only at q1;generalize am ⟨fl,cp,ar,lf,dn⟩ (bH fl cp n x)=q at *;have hb:=iv q.1 kk (by omega) (by omega) [n] (by simp)
  have kq:=kk.up (k':=k+2*(1+1)) (u':=u+30000*(1+1)) (by omega) (by omega)
  generalize hbt:cX [n] q.1=bt at *;obtain⟨⟨qfl,qcp,qar,qlf,qdn⟩,qe⟩:=q;obtain⟨⟨bfl,bcp,bar,blf,bdn⟩,be⟩:=bt;simp only[aP,Dsk.l,List.map_cons,List.map_nil,eS] at q1 hb h3;have g1:au call 124 [.agg [.d (.l (fl.map Fil.enc)),zI cp,zB ar,zI lf,zB dn],.one (.p 1 0),.one (.p 2 0)] [.cells [.f 123 [1],.ns,.f 124 [1,2],.sl 3 1 0 1,.f 125 [1],.ns,.f 126 [4],.ns,.f 127 [5],.sl 7 1 0 2],.cells [zS n],.cells [zS x],.arr 1 [[.s n]] 0,.cells [zS g],.cells [.ns,zI 0,zB false,zI 0,zB false,zI ver,.sl 6 3 0 1,zI at_,zI at_,zI x.length,zW (cw x)],.arr 3 [[.i .i64 at_,.i .i64 0,.i .i64 0]] 0,.arr 1 [[.s g],[.s n]] 0,.cells [.d (.l (fl.map Fil.enc)),zI cp,zB ar,zI lf,zB dn],.cells [.ns,zI 0,zB false,zI 0,zB false],.cells [.f 124 [1,2],.sl 3 1 0 1]]=some (V.tup [(true,[.d (.l (qfl.map Fil.enc)),zI qcp,zB qar,zI qlf,zB qdn]),(false,[zI qe])],[.cells [.f 123 [1],.ns,.f 124 [1,2],.sl 3 1 0 1,.f 125 [1],.ns,.f 126 [4],.ns,.f 127 [5],.sl 7 1 0 2],.cells [zS n],.cells [zS x],.arr 1 [[.s n]] 0,.cells [zS g],.cells [.ns,zI 0,zB false,zI 0,zB false,zI ver,.sl 6 3 0 1,zI at_,zI at_,zI x.length,zW (cw x)],.arr 3 [[.i .i64 at_,.i .i64 0,.i .i64 0]] 0,.arr 1 [[.s g],[.s n]] 0,.cells [.d (.l (fl.map Fil.enc)),zI cp,zB ar,zI lf,zB dn],.cells [.ns,zI 0,zB false,zI 0,zB false],.cells [.f 124 [1,2],.sl 3 1 0 1]]):=aE (ids:=[1,2]) rfl rfl rfl q1 rfl;by_cases c2:qe=0
  ·subst c2;rw[if_neg (by decide),if_neg (by simp)] at h3
   have hR':=hR (1+1,⟨qfl,qcp,qar,qlf,qdn⟩) (by simp only[];omega) ⟨by simp only[];omega,kq,h3⟩
   (simp(disch:=first|decide|omega|(intros;exact aj rfl rfl)|simp only[aa]) only[aF,dp,g1,go_sem,seval,ak,bI,A.kind,A.xs,aD,A.isN])
   exact hR' _ _ cm
  ·by_cases c9:qe=9
   ·subst c9;rw[if_pos rfl] at h3;cases h3;(simp(disch:=first|decide|omega|(intros;exact aj rfl rfl)|simp only[aa]) only[aF,dp,g1,hb,go_sem,seval,ak,bI,A.kind,A.xs,aD,A.isN])
    try simp[zR]
   ·rw[if_neg c9,if_pos c2] at h3;cases h3;(simp(disch:=first|decide|omega|(intros;exact aj rfl rfl)|simp only[aa]) only[aF,dp,g1,c2,c9,go_sem,seval,ak,bI,A.kind,A.xs,aD,A.isN])
    try simp[zR]
 ·have q1:=JE ⟨fl,cp,ar,lf,dn⟩ hok n;have kk:=kL (s:=(⟨fl,cp,ar,lf,dn⟩,0)) h2 n;rw[show fO n (⟨fl,cp,ar,lf,dn⟩,0)=am ⟨fl,cp,ar,lf,dn⟩ (cq fl n) from bn _ _] at kk
  simp only[uT,u2] at h3;simp only at q1;generalize am ⟨fl,cp,ar,lf,dn⟩ (cq fl n)=q at *;have hb:=iv q.1 kk (by omega) (by omega) [] (by simp)
  have kq:=kk.up (k':=k+2*(2+1)) (u':=u+30000*(2+1)) (by omega) (by omega)
  generalize hbt:cX [] q.1=bt at *;obtain⟨⟨qfl,qcp,qar,qlf,qdn⟩,qe⟩:=q;obtain⟨⟨bfl,bcp,bar,blf,bdn⟩,be⟩:=bt;simp only[aP,Dsk.l,List.map_cons,List.map_nil,eS] at q1 hb h3;have g1:au call 125 [.agg [.d (.l (fl.map Fil.enc)),zI cp,zB ar,zI lf,zB dn],.one (.p 1 0)] [.cells [.f 123 [1],.ns,.f 124 [1,2],.sl 3 1 0 1,.f 125 [1],.ns,.f 126 [4],.ns,.f 127 [5],.sl 7 1 0 2],.cells [zS n],.cells [zS x],.arr 1 [[.s n]] 0,.cells [zS g],.cells [.ns,zI 0,zB false,zI 0,zB false,zI ver,.sl 6 3 0 1,zI at_,zI at_,zI x.length,zW (cw x)],.arr 3 [[.i .i64 at_,.i .i64 0,.i .i64 0]] 0,.arr 1 [[.s g],[.s n]] 0,.cells [.d (.l (fl.map Fil.enc)),zI cp,zB ar,zI lf,zB dn],.cells [.ns,zI 0,zB false,zI 0,zB false],.cells [.f 125 [1],.ns]]=some (V.tup [(true,[.d (.l (qfl.map Fil.enc)),zI qcp,zB qar,zI qlf,zB qdn]),(false,[zI qe])],[.cells [.f 123 [1],.ns,.f 124 [1,2],.sl 3 1 0 1,.f 125 [1],.ns,.f 126 [4],.ns,.f 127 [5],.sl 7 1 0 2],.cells [zS n],.cells [zS x],.arr 1 [[.s n]] 0,.cells [zS g],.cells [.ns,zI 0,zB false,zI 0,zB false,zI ver,.sl 6 3 0 1,zI at_,zI at_,zI x.length,zW (cw x)],.arr 3 [[.i .i64 at_,.i .i64 0,.i .i64 0]] 0,.arr 1 [[.s g],[.s n]] 0,.cells [.d (.l (fl.map Fil.enc)),zI cp,zB ar,zI lf,zB dn],.cells [.ns,zI 0,zB false,zI 0,zB false],.cells [.f 125 [1],.ns]]):=aE (ids:=[1]) rfl rfl rfl q1 rfl;by_cases c2:qe=0
  ·subst c2;rw[if_neg (by simp)] at h3
   have hR':=hR (2+1,⟨qfl,qcp,qar,qlf,qdn⟩) (by simp only[];omega) ⟨by simp only[];omega,kq,h3⟩
   (simp(disch:=first|decide|omega|(intros;exact aj rfl rfl)|simp only[aa]) only[aF,dp,g1,go_sem,seval,ak,bI,A.kind,A.xs,aD,A.isN])
   exact hR' _ _ cm
  ·rw[if_pos c2] at h3;cases h3;have hbt2:(⟨⟨bfl,bcp,bar,blf,bdn⟩,be⟩:Dsk × Int)=(⟨zfl,zcp,zar,zlf,zdn⟩,9):=hbt.symm;cases hbt2;by_cases c9:ze=9
   ·subst c9;(simp(disch:=first|decide|omega|(intros;exact aj rfl rfl)|simp only[aa]) only[aF,dp,g1,hb,go_sem,seval,ak,bI,A.kind,A.xs,aD,A.isN])
    try simp[zR]
   ·(simp(disch:=first|decide|omega|(intros;exact aj rfl rfl)|simp only[aa]) only[aF,dp,g1,c2,c9,go_sem,seval,ak,bI,A.kind,A.xs,aD,A.isN])
    try simp[zR]
 ·have q1:=IL ⟨fl,cp,ar,lf,dn⟩ hok g;have kk:=dY (s:=(⟨fl,cp,ar,lf,dn⟩,0)) h2 g;rw[show bL g (⟨fl,cp,ar,lf,dn⟩,0)=am ⟨fl,cp,ar,lf,dn⟩ (bh fl g) from bn _ _] at kk
  simp only[uT,u3] at h3;simp only at q1;generalize am ⟨fl,cp,ar,lf,dn⟩ (bh fl g)=q at *;have hb:=iv q.1 kk (by omega) (by omega) [] (by simp)
  have kq:=kk.up (k':=k+2*(3+1)) (u':=u+30000*(3+1)) (by omega) (by omega)
  generalize hbt:cX [] q.1=bt at *;obtain⟨⟨qfl,qcp,qar,qlf,qdn⟩,qe⟩:=q;obtain⟨⟨bfl,bcp,bar,blf,bdn⟩,be⟩:=bt;simp only[aP,Dsk.l,List.map_cons,List.map_nil,eS] at q1 hb h3;have g1:au call 126 [.agg [.d (.l (fl.map Fil.enc)),zI cp,zB ar,zI lf,zB dn],.one (.p 4 0)] [.cells [.f 123 [1],.ns,.f 124 [1,2],.sl 3 1 0 1,.f 125 [1],.ns,.f 126 [4],.ns,.f 127 [5],.sl 7 1 0 2],.cells [zS n],.cells [zS x],.arr 1 [[.s n]] 0,.cells [zS g],.cells [.ns,zI 0,zB false,zI 0,zB false,zI ver,.sl 6 3 0 1,zI at_,zI at_,zI x.length,zW (cw x)],.arr 3 [[.i .i64 at_,.i .i64 0,.i .i64 0]] 0,.arr 1 [[.s g],[.s n]] 0,.cells [.d (.l (fl.map Fil.enc)),zI cp,zB ar,zI lf,zB dn],.cells [.ns,zI 0,zB false,zI 0,zB false],.cells [.f 126 [4],.ns]]=some (V.tup [(true,[.d (.l (qfl.map Fil.enc)),zI qcp,zB qar,zI qlf,zB qdn]),(false,[zI qe])],[.cells [.f 123 [1],.ns,.f 124 [1,2],.sl 3 1 0 1,.f 125 [1],.ns,.f 126 [4],.ns,.f 127 [5],.sl 7 1 0 2],.cells [zS n],.cells [zS x],.arr 1 [[.s n]] 0,.cells [zS g],.cells [.ns,zI 0,zB false,zI 0,zB false,zI ver,.sl 6 3 0 1,zI at_,zI at_,zI x.length,zW (cw x)],.arr 3 [[.i .i64 at_,.i .i64 0,.i .i64 0]] 0,.arr 1 [[.s g],[.s n]] 0,.cells [.d (.l (fl.map Fil.enc)),zI cp,zB ar,zI lf,zB dn],.cells [.ns,zI 0,zB false,zI 0,zB false],.cells [.f 126 [4],.ns]]):=aE (ids:=[4]) rfl rfl rfl q1 rfl;by_cases c2:qe=0
  ·subst c2;rw[if_neg (by simp)] at h3
   have hR':=hR (3+1,⟨qfl,qcp,qar,qlf,qdn⟩) (by simp only[];omega) ⟨by simp only[];omega,kq,h3⟩
   (simp(disch:=first|decide|omega|(intros;exact aj rfl rfl)|simp only[aa]) only[aF,dp,g1,go_sem,seval,ak,bI,A.kind,A.xs,aD,A.isN])
   exact hR' _ _ cm
  ·rw[if_pos c2] at h3;cases h3;have hbt2:(⟨⟨bfl,bcp,bar,blf,bdn⟩,be⟩:Dsk × Int)=(⟨zfl,zcp,zar,zlf,zdn⟩,9):=hbt.symm;cases hbt2;by_cases c9:ze=9
   ·subst c9;(simp(disch:=first|decide|omega|(intros;exact aj rfl rfl)|simp only[aa]) only[aF,dp,g1,hb,go_sem,seval,ak,bI,A.kind,A.xs,aD,A.isN])
    try simp[zR]
   ·(simp(disch:=first|decide|omega|(intros;exact aj rfl rfl)|simp only[aa]) only[aF,dp,g1,c2,c9,go_sem,seval,ak,bI,A.kind,A.xs,aD,A.isN])
    try simp[zR]
 ·have q1:=JO ⟨fl,cp,ar,lf,dn⟩ h2 (by omega) (by omega) ver at_ x 0 (by decide)
  have kk:=gS (s:=(⟨fl,cp,ar,lf,dn⟩,0)) h2 (fe ver at_ x).man;simp only[uT,u4] at h3;simp only[Jo] at q1;generalize bR (fe ver at_ x).man (⟨fl,cp,ar,lf,dn⟩,0)=q at *;have hb:=iv q.1 kk (by omega) (by omega) [g,n] (by simp)
  have kq:=kk.up (k':=k+2*(4+1)) (u':=u+30000*(4+1)) (by omega) (by omega)
  generalize hbt:cX [g,n] q.1=bt at *;obtain⟨⟨qfl,qcp,qar,qlf,qdn⟩,qe⟩:=q;obtain⟨⟨bfl,bcp,bar,blf,bdn⟩,be⟩:=bt;simp only[aP,Dsk.l,List.map_cons,List.map_nil,eS] at q1 hb h3;have g1:au call 127 [.agg [.d (.l (fl.map Fil.enc)),zI cp,zB ar,zI lf,zB dn],.one (.p 5 0)] [.cells [.f 123 [1],.ns,.f 124 [1,2],.sl 3 1 0 1,.f 125 [1],.ns,.f 126 [4],.ns,.f 127 [5],.sl 7 1 0 2],.cells [zS n],.cells [zS x],.arr 1 [[.s n]] 0,.cells [zS g],.cells [.ns,zI 0,zB false,zI 0,zB false,zI ver,.sl 6 3 0 1,zI at_,zI at_,zI x.length,zW (cw x)],.arr 3 [[.i .i64 at_,.i .i64 0,.i .i64 0]] 0,.arr 1 [[.s g],[.s n]] 0,.cells [.d (.l (fl.map Fil.enc)),zI cp,zB ar,zI lf,zB dn],.cells [.ns,zI 0,zB false,zI 0,zB false],.cells [.f 127 [5],.sl 7 1 0 2]]=some (V.tup [(true,[.d (.l (qfl.map Fil.enc)),zI qcp,zB qar,zI qlf,zB qdn]),(false,[zI qe])],[.cells [.f 123 [1],.ns,.f 124 [1,2],.sl 3 1 0 1,.f 125 [1],.ns,.f 126 [4],.ns,.f 127 [5],.sl 7 1 0 2],.cells [zS n],.cells [zS x],.arr 1 [[.s n]] 0,.cells [zS g],.cells [.ns,zI 0,zB false,zI 0,zB false,zI ver,.sl 6 3 0 1,zI at_,zI at_,zI x.length,zW (cw x)],.arr 3 [[.i .i64 at_,.i .i64 0,.i .i64 0]] 1,.arr 1 [[.s g],[.s n]] 0,.cells [.d (.l (fl.map Fil.enc)),zI cp,zB ar,zI lf,zB dn],.cells [.ns,zI 0,zB false,zI 0,zB false],.cells [.f 127 [5],.sl 7 1 0 2]]):=aE (ids:=[5,6]) rfl rfl rfl q1 rfl;by_cases c9:qe=9
  ·subst c9;rw[if_pos rfl] at h3;cases h3;(simp(disch:=first|decide|omega|(intros;exact aj rfl rfl)|simp only[aa]) only[aF,dp,g1,hb,go_sem,seval,ak,bI,A.kind,A.xs,aD,A.isN])
   try simp[zR]
  ·rw[if_neg c9] at h3;by_cases c2:qe=0
   ·subst c2;have hR':=hR (4+1,⟨qfl,qcp,qar,qlf,qdn⟩) (by simp only[];omega) ⟨by simp only[];omega,kq,by simp only[uT];exact h3⟩
    (simp(disch:=first|decide|omega|(intros;exact aj rfl rfl)|simp only[aa]) only[aF,dp,g1,go_sem,seval,ak,bI,A.kind,A.xs,aD,A.isN])
    exact hR' _ _ cm
   ·cases h3;(simp(disch:=first|decide|omega|(intros;exact aj rfl rfl)|simp only[aa]) only[aF,dp,g1,c2,c9,go_sem,seval,ak,bI,A.kind,A.xs,aD,A.isN])
    try simp[zR]
 ·simp only[uT] at h3;cases h3;(simp(disch:=first|decide|omega|(intros;exact aj rfl rfl)|simp only[aa]) only[aF,dp,F8,go_sem,seval,ak,bI,A.kind,A.xs,aD,A.isN])
  try simp[zR]
theorem oX (x:Txt) (hx:x.length<=1000000):call 64 [vl [[.s x]]] []=some (vk .u32 (cw x),[]):=by
 have h:=w9 [x] (by simp) (fun s hs=>by rw[zV.1 hs];omega)
 have e:tC [x]=cA 0#32 x:=rfl;rw[e] at h;exact h
def fw (s:Sto):List Txt:=s.segs.map (fun g=>fileN g.base)++(if 0<s.floor then[aN s.floor] else[])
def bf (s:Sto) (at_:Int) (x:Txt):Sto × Int :=
 if bA x=none∨at_<=s.next∨1099511627776<at_ then(s,1)
 else if(u0 (aN at_) (fileN at_) x (fe (s.ver+1) at_ x).man s.disk).1.2≠0 then({ s with disk:=(u0 (aN at_) (fileN at_) x (fe (s.ver+1) at_ x).man s.disk).1.1 },(u0 (aN at_) (fileN at_) x (fe (s.ver+1) at_ x).man s.disk).1.2)
 else({ fe (s.ver+1) at_ x with disk:=(yH (fw s) (u0 (aN at_) (fileN at_) x (fe (s.ver+1) at_ x).man s.disk).1.1).1 },(yH (fw s) (u0 (aN at_) (fileN at_) x (fe (s.ver+1) at_ x).man s.disk).1.1).2)
theorem Ky {k u:Nat} {d:Dsk} (h:okN k u d) {n g x:Txt} (hx:x.length<=20000) (hk:True) (hu:True) (m:Man):okN (k+3) (u+30000) (u0 n g x m d).1.1:=by
 have qU:∀ {k u:Nat} (l:List Txt) (d:Dsk),okN k u d->okN k u (cX l d).1:=by
  intro k u l;induction l with
  | nil=>intro d h;exact h
  | cons a l ih =>
   intro d h;have:=dL (s:=(d,0)) h a;rw[show dw a (d,0)=am d (bO d.files a) from bn _ _] at this
   simp only[cX];split
   ·exact this
   ·exact ih _ this
 have h1:=dY (s:=(d,0)) h n;rw[show bL n (d,0)=am d (bh d.files n) from bn _ _] at h1
 unfold u0;split
 ·exact h1.up (by omega) (by omega)
 generalize (am d (bh d.files n)).1=d1 at *;have h2:=iZ (s:=(d1,0)) h1 n x;rw[show fD n x (d1,0)=am d1 (bH d1.files d1.cap n x) from bn _ _] at h2
 unfold u1;split
 ·exact(qU _ _ h2).up (by omega) (by omega)
 split
 ·exact h2.up (by omega) (by omega)
 generalize (am d1 (bH d1.files d1.cap n x)).1=d2 at *;have h3:=kL (s:=(d2,0)) h2 n;rw[show fO n (d2,0)=am d2 (cq d2.files n) from bn _ _] at h3
 unfold u2;split
 ·exact h3.up (by omega) (by omega)
 generalize (am d2 (cq d2.files n)).1=d3 at *;have h4:=dY (s:=(d3,0)) h3 g;rw[show bL g (d3,0)=am d3 (bh d3.files g) from bn _ _] at h4
 unfold u3;split
 ·exact h4.up (by omega) (by omega)
 generalize (am d3 (bh d3.files g)).1=d4 at *;have h5:=gS (s:=(d4,0)) h4 m;unfold u4;split
 ·exact(qU _ _ h5).up (by omega) (by omega)
 ·exact h5.up (by omega) (by omega)
theorem CF {k u:Nat} (s:Sto) (h:okS k u s) (hk:k<=700000) (hu:u<=1000000) (at_:Int) (hat : -9223372036854775808<=at_∧at_<9223372036854775808) (x:Txt) (hx:x.length<=20000):call 88 [.agg s.l,vi at_,vs x] []=some (dA (bf s at_ x),[]):=by
 have q1:=se x (by omega)
 unfold bf;have hver:=h.ver;by_cases c0:bA x=none∨at_<=s.next∨1099511627776<at_
 ·rw[if_pos c0];obtain⟨⟨fl,cp,ar,lf,dn⟩,ver,segs,next,sure,size,sum⟩:=s;simp only[Sto.l,Dsk.l,dA,List.cons_append,List.nil_append] at c0 ⊢;apply ah RN rfl;cases hp:bA x with
  | none =>
   rw[hp] at q1;simp only[gp] at q1;(simp(disch:=first|decide|omega|(intros;exact aj rfl rfl)|simp only[aa]) only[aF,Kw,q1,go_sem,seval,ak])
   try simp[trim]
  | some l =>
   rw[hp] at q1;simp only[gp] at q1;rw[hp] at c0;by_cases c1:at_<=next
   ·(simp(disch:=first|decide|omega|(intros;exact aj rfl rfl)|simp only[aa]) only[aF,Kw,q1,zT c1,go_sem,seval,ak])
    try simp[trim]
   ·have c2:1099511627776<at_:=by
     rcases c0 with h|h|h
     ·cases h
     ·exact absurd h c1
     ·exact h
    (simp(disch:=first|decide|omega|(intros;exact aj rfl rfl)|simp only[aa]) only[aF,Kw,q1,zF c1,zT c2,go_sem,seval,ak])
    try simp[trim]
 ·rw[if_neg c0];have hp:bA x≠none:=fun h=>c0 (Or.inl h)
  have c1:¬ at_<=s.next:=fun h=>c0 (Or.inr (Or.inl h))
  have c2:¬ 1099511627776<at_:=fun h=>c0 (Or.inr (Or.inr h))
  obtain⟨l,hl⟩:=Option.ne_none_iff_exists'.1 hp;rw[hl] at q1;simp only[gp] at q1;have hnx:=h.next;have q2:=lz (n:=at_) (by omega)
  have q3:=ky (n:=at_) (by omega)
  have q4:=oX x (by omega)
  have hs:=n5 x;have qf:call 119 [.agg s.l] []=some (vi s.floor,[]):=mZ s;have hfo:=gU h;have qn:=lz hfo;have hseg:=h.seg;have hsl:=h.len.2;have r1:=DS s.disk h.dsk (by omega) (by omega) (aN at_) (fileN at_) x hx (s.ver+1) at_
  have kr:okN (k+3) (u+30000) (u0 (aN at_) (fileN at_) x (fe (s.ver+1) at_ x).man s.disk).1.1:=Ky h.dsk hx trivial trivial _;obtain⟨fl',hfl'⟩:∃ fl',fl'=s.floor:=⟨_,rfl⟩;have hnm:fw s=s.segs.map (fun g=>fileN g.base)++(if 0<fl' then[aN fl'] else[]):=by rw[hfl'];rfl
  rw[hnm];rw[<- hfl'] at qf hfo qn;clear hnm hfl';generalize u0 (aN at_) (fileN at_) x (fe (s.ver+1) at_ x).man s.disk=r at *;obtain⟨⟨⟨efl,ecp,ear,elf,edn⟩,ee⟩,F1,F2,F3⟩:=r;obtain⟨⟨fl,cp,ar,lf,dn⟩,ver,segs,next,sure,size,sum⟩:=s;simp only[Sto.l,Dsk.l,dA,aP,List.cons_append,List.nil_append,HI] at c1 hver r1 qf kr hseg hsl ⊢;have g1:au call 122 [.agg [.d (.l (fl.map Fil.enc)),zI cp,zB ar,zI lf,zB dn],.one (.sp 10 5)] [.cells [.d (.l (fl.map Fil.enc)),zI cp,zB ar,zI lf,zB dn,zI ver,.d (.l (segs.map Seg.enc)),zI next,zI sure,zI size,zW sum],.cells [zS x],.cells [.ns,zI 0,zB false,zI 0,zB false,zI 0,.ns,zI 0,zI 0,zI 0,zW 0],.arr 3 [[.i .i64 at_,.i .i64 0,.i .i64 0]] 0,.arr 1 [[.s x]] (max 0 1),.cells [.ns,zI 0,zB false,zI 0,zB false,zI (ver+1),.sl 3 3 0 1,zI at_,zI at_,zI x.length,zW (cw x)],.cells [zS (aN at_)],.cells [zS (fileN at_)],.arr 1 [[.s (aN at_)]] 0,.arr 1 [[.s (fileN at_)],[.s (aN at_)]] 0,.cells [.f 123 [6],.ns,.f 124 [6,1],.sl 8 1 0 1,.f 125 [6],.ns,.f 126 [7],.ns,.f 127 [5],.sl 9 1 0 2]]=some (V.tup [(true,[.d (.l (efl.map Fil.enc)),zI ecp,zB ear,zI elf,zB edn]),(false,[zI ee])],[.cells [.d (.l (fl.map Fil.enc)),zI cp,zB ar,zI lf,zB dn,zI ver,.d (.l (segs.map Seg.enc)),zI next,zI sure,zI size,zW sum],.cells [zS x],.cells [.ns,zI 0,zB false,zI 0,zB false,zI 0,.ns,zI 0,zI 0,zI 0,zW 0],.arr 3 [[.i .i64 at_,.i .i64 0,.i .i64 0]] F2,.arr 1 [[.s x]] (max 0 1),.cells [.ns,zI 0,zB false,zI 0,zB false,zI (ver+1),.sl 3 3 0 1,zI at_,zI at_,zI x.length,zW (cw x)],.cells [zS (aN at_)],.cells [zS (fileN at_)],.arr 1 [[.s (aN at_)]] F1,.arr 1 [[.s (fileN at_)],[.s (aN at_)]] F3,.cells [.f 123 [6],.ns,.f 124 [6,1],.sl 8 1 0 1,.f 125 [6],.ns,.f 126 [7],.ns,.f 127 [5],.sl 9 1 0 2]]):=aE (ids:=[10,6,1,8,7,5,3,9]) rfl rfl rfl r1 rfl;clear r1;generalize aN at_=SN at *;generalize fileN at_=SG at *;apply ah RN rfl;by_cases c3:ee=0
  ·subst c3;rw[if_neg (by simp)]
   obtain⟨FN,hFN⟩:∃ FN,FN=aN fl':=⟨_,rfl⟩;rw[<- hFN] at qn ⊢;clear hFN;obtain⟨NS,hNS⟩:∃ NS,NS=segs.map (fun g=>fileN g.base)++(if 0<fl' then[FN] else[]):=⟨_,rfl⟩
   rw[<- hNS];have hnl:NS.length<=1000:=by
    rw[hNS,zA,zM];split <;> simp <;> omega
   have r2:=GJ ⟨efl,ecp,ear,elf,edn⟩ kr (by omega) (by omega) NS hnl
   generalize yH NS ⟨efl,ecp,ear,elf,edn⟩=z at *;obtain⟨⟨zfl,zcp,zar,zlf,zdn⟩,ze⟩:=z;simp only[Dsk.l,aP,fe,Sto.l,Seg.enc,List.map_cons,List.map_nil,List.cons_append,List.nil_append] at r2 ⊢;(simp(disch:=first|decide|omega|(intros;exact aj rfl rfl)|simp only[aa]) only[aF,Kw,q1,zF c1,zF c2,↓jk,eQ,cr,q4,q2,q3,g1,go_sem,seval,ak,bI,A.kind,A.xs,aD,A.isN])
   refine aB (m:=0) (σ:=Nat) (fun i=>segs.length-i) (fun i=>i<=segs.length) (fun i=>[V.one (.p 0 0),V.one (.p 1 0),V.one (.p 2 0),V.one (.p 4 0),V.one (.sl 5 2 0 (segs.take i).length),vl (segs.map Seg.enc),vi segs.length,vi i])
    (fun i=>[.cells [.d (.l (fl.map Fil.enc)),zI cp,zB ar,zI lf,zB dn,zI ver,.d (.l (segs.map Seg.enc)),zI next,zI sure,zI size,zW sum],.cells [.ns,zI 0,zB false,zI 0,zB false,zI 0,.ns,zI 0,zI 0,zI 0,zW 0],.cells [.ns,zI 0,zB false,zI 0,zB false,zI (ver+1),.sl 3 3 0 1,zI at_,zI at_,zI x.length,zW (cw x)],.arr 3 [[.i .i64 at_,.i .i64 0,.i .i64 0]] F2,.cells [.d (.l (efl.map Fil.enc)),zI ecp,zB ear,zI elf,zB edn],.arr 2 ((segs.take i).map (fun g=>xM (fileN g.base))) 0])
    (fun _=>(V.tup [(true,[.d (.l (zfl.map Fil.enc)),zI zcp,zB zar,zI zlf,zB zdn,zI (ver+1),.d (.l [[.i .i64 at_,.i .i64 0,.i .i64 0]]),zI at_,zI at_,zI x.length,zW (cw x)]),(false,[zI ze])],([]:Hp))) ?_ 0 (zP _) _ _ ?_
   rotate_left
   ·exact cm
   clear g1 q1 q2 q3 q4;intro i hi R hR;by_cases c4:i<segs.length
   ·have hc4:(i:Int)<(segs.length:Int):=by omega
    have g1:(segs.map Seg.enc)[i]?=some [.i .i64 segs[i].base,.i .i64 segs[i].n,.i .i64 segs[i].size]:=by
     rw[zG,zE c4];rfl
    have g2:=ky (hseg _ (zN c4)).1;have hR':=hR (i+1) (by omega) (by omega)
    rw[zO c4,List.map_append,zA,List.map_cons,List.map_nil,List.length_cons,List.length_nil] at hR';have hrl:((segs.take i).map (fun g=>xM (fileN g.base))).length=(segs.take i).length:=by simp
    have hrl2:(segs.take i).length<=64:=by rw[zQ];omega
    generalize hRQ:(segs.take i).map (fun g=>xM (fileN g.base))=RQ at *
    generalize (segs.take i).length=RL at *;have g3:=p8 (fileN segs[i].base);simp only[xM] at hR';generalize fileN segs[i].base=FB at *;generalize segs[i]=sg at *;obtain⟨sb,sn,sz⟩:=sg;simp only at g1 g2;have g4:au call 128 [vs FB] [.cells [.d (.l (fl.map Fil.enc)),zI cp,zB ar,zI lf,zB dn,zI ver,.d (.l (segs.map Seg.enc)),zI next,zI sure,zI size,zW sum],.cells [.ns,zI 0,zB false,zI 0,zB false,zI 0,.ns,zI 0,zI 0,zI 0,zW 0],.cells [.ns,zI 0,zB false,zI 0,zB false,zI (ver+1),.sl 3 3 0 1,zI at_,zI at_,zI x.length,zW (cw x)],.arr 3 [[.i .i64 at_,.i .i64 0,.i .i64 0]] F2,.cells [.d (.l (efl.map Fil.enc)),zI ecp,zB ear,zI elf,zB edn],.arr 2 RQ 0,.cells [zI sb,zI sn,zI sz]] =
     some (.agg [.f 158 [7],.ns],[.cells [.d (.l (fl.map Fil.enc)),zI cp,zB ar,zI lf,zB dn,zI ver,.d (.l (segs.map Seg.enc)),zI next,zI sure,zI size,zW sum],.cells [.ns,zI 0,zB false,zI 0,zB false,zI 0,.ns,zI 0,zI 0,zI 0,zW 0],.cells [.ns,zI 0,zB false,zI 0,zB false,zI (ver+1),.sl 3 3 0 1,zI at_,zI at_,zI x.length,zW (cw x)],.arr 3 [[.i .i64 at_,.i .i64 0,.i .i64 0]] F2,.cells [.d (.l (efl.map Fil.enc)),zI ecp,zB ear,zI elf,zB edn],.arr 2 RQ 0,.cells [zI sb,zI sn,zI sz],.cells [zS FB],.cells [.f 158 [7],.ns]]):=aE (ids:=[]) rfl rfl rfl g3 rfl
    (simp(disch:=first|decide|omega|(intros;exact aj rfl rfl)|simp only[aa]) only[aF,Ce,zT hc4,g1,g2,g4,rJ,lc,hrl,go_sem,seval,ak,bI,A.kind,A.xs,aD,A.isN])
    exact hR' _ _ cm
   ·have hc4:¬ (i:Int)<(segs.length:Int):=by omega
    have htk:segs.take i=segs:=zL (by omega)
    rw[htk];have hnt:List.take NS.length (NS.map xM)=NS.map xM:=zL (by simp)
    by_cases c5:0<fl'
    ·rw[if_pos c5] at hNS;have hrl:(segs.map (fun g=>xM (fileN g.base))).length=segs.length:=by simp
     have hrw:segs.map (fun g=>xM (fileN g.base))++[[.fn 158 [[.s FN]],.l []]]=NS.map xM:=by rw[hNS];simp[xM]
     have hnl2:segs.length+1=NS.length:=by rw[hNS];simp
     have g3:=p8 FN;generalize segs.map (fun g=>xM (fileN g.base))=RQ at *
     have g4:au call 128 [vs FN] [.cells [.d (.l (fl.map Fil.enc)),zI cp,zB ar,zI lf,zB dn,zI ver,.d (.l (segs.map Seg.enc)),zI next,zI sure,zI size,zW sum],.cells [.ns,zI 0,zB false,zI 0,zB false,zI 0,.ns,zI 0,zI 0,zI 0,zW 0],.cells [.ns,zI 0,zB false,zI 0,zB false,zI (ver+1),.sl 3 3 0 1,zI at_,zI at_,zI x.length,zW (cw x)],.arr 3 [[.i .i64 at_,.i .i64 0,.i .i64 0]] F2,.cells [.d (.l (efl.map Fil.enc)),zI ecp,zB ear,zI elf,zB edn],.arr 2 RQ 0] =
      some (.agg [.f 158 [6],.ns],[.cells [.d (.l (fl.map Fil.enc)),zI cp,zB ar,zI lf,zB dn,zI ver,.d (.l (segs.map Seg.enc)),zI next,zI sure,zI size,zW sum],.cells [.ns,zI 0,zB false,zI 0,zB false,zI 0,.ns,zI 0,zI 0,zI 0,zW 0],.cells [.ns,zI 0,zB false,zI 0,zB false,zI (ver+1),.sl 3 3 0 1,zI at_,zI at_,zI x.length,zW (cw x)],.arr 3 [[.i .i64 at_,.i .i64 0,.i .i64 0]] F2,.cells [.d (.l (efl.map Fil.enc)),zI ecp,zB ear,zI elf,zB edn],.arr 2 RQ 0,.cells [zS FN],.cells [.f 158 [6],.ns]]):=aE (ids:=[]) rfl rfl rfl g3 rfl
     (simp(disch:=first|decide|omega|(intros;exact aj rfl rfl)|simp only[aa]) only[aF,Ce,Kw,zF hc4,qf,qn,zT c5,g4,rJ,lc,hrl,hrw,hnl2,hnt,r2,go_sem,seval,ak,bI,A.kind,A.xs,aD,A.isN])
     try simp[trim]
    ·rw[if_neg c5,List.append_nil] at hNS;have hrl:(segs.map (fun g=>xM (fileN g.base))).length=segs.length:=by simp
     have hrw:segs.map (fun g=>xM (fileN g.base))=NS.map xM:=by rw[hNS];simp
     have hnl2:segs.length=NS.length:=by rw[hNS];simp
     rw[hrw] at hrl ⊢;rw[show(.sl 5 2 0 segs.length:L)=.sl 5 2 0 NS.length by rw[hnl2]]
     (simp(disch:=first|decide|omega|(intros;exact aj rfl rfl)|simp only[aa]) only[aF,Ce,Kw,zF hc4,qf,zF c5,hnt,r2,go_sem,seval,ak,bI,A.kind,A.xs,aD,A.isN])
     try simp[trim]
  ·rw[if_pos c3];(simp(disch:=first|decide|omega|(intros;exact aj rfl rfl)|simp only[aa]) only[aF,Kw,q1,zF c1,zF c2,↓jk,eQ,cr,q4,q2,q3,g1,c3,go_sem,seval,ak,bI,A.kind,A.xs,aD,A.isN])
   try simp[trim,c3]
theorem qU {k u:Nat}:∀ (l:List Txt) (d:Dsk),okN k u d->okN k u (cX l d).1
 | [],d,h=>h
 | a::l,d,h=>by
  have:=dL (s:=(d,0)) h a;rw[show dw a (d,0)=am d (bO d.files a) from bn _ _] at this
  simp only[cX];split
  ·exact this
  ·exact qU l _ this
theorem Cc:∀ (l:List Txt) (d:Dsk),(cX l d).2≠0
 | [],d=>by simp[cX]
 | a::l,d=>by
  simp only[cX];split
  ·assumption
  ·exact Cc l _
theorem Gu {k u:Nat}:∀ (l:List Txt) (d:Dsk),okN k u d->okN k u (yH l d).1
 | [],d,h=>h
 | a::l,d,h=>by
  have:=dL (s:=(d,0)) h a;rw[show dw a (d,0)=am d (bO d.files a) from bn _ _] at this
  by_cases c:(am d (bO d.files a)).2=0
  ·have e1:yH (a::l) d=yH l (am d (bO d.files a)).1:=if_pos c;rw[e1];exact Gu l _ this
  ·have e1:yH (a::l) d=am d (bO d.files a):=if_neg c;rw[e1];exact this
theorem JN {k u:Nat} {s:Sto} (h:okS k u s) (at_:Int) {x:Txt} (hx:x.length<=20000):okS (k+3) (u+30000) (bf s at_ x).1:=by
 have h2:=h.up (k':=k+3) (u':=u+30000) (by omega) (by omega)
 have kr:okN (k+3) (u+30000) (u0 (aN at_) (fileN at_) x (fe (s.ver+1) at_ x).man s.disk).1.1:=Ky h.dsk hx trivial trivial _;unfold bf;by_cases c0:bA x=none∨at_<=s.next∨1099511627776<at_
 ·rw[if_pos c0];exact h2
 ·rw[if_neg c0];have c1:¬ at_<=s.next:=fun h=>c0 (Or.inr (Or.inl h))
  have c2:¬ 1099511627776<at_:=fun h=>c0 (Or.inr (Or.inr h))
  have hn:=h.next;have hv:=h.ver;split
  ·exact⟨kr,h2.len,h2.seg,h2.next,h2.ver,h2.sum⟩
  ·refine⟨Gu _ _ kr,by show 1<=1∧1<=64;omega,fun g hg=>?_,by show 0<=at_∧at_<=1099511627776;omega,by show 0<=s.ver+1∧s.ver+1<=((u+30000:Nat):Int);omega,n5 x⟩
   have hg':g∈[(⟨at_,0,0⟩:Seg)]:=hg;rw[zV] at hg';subst hg';exact⟨by show 0<=at_∧at_<=1099511627776;omega,by show(0:Int)<=0∧(0:Int)<=((u+30000:Nat):Int);omega,by show(0:Int)<=0∧(0:Int)<=((u+30000:Nat):Int);omega⟩
def exW:Txt:=[1,97,1,49]
variable {k u:Nat} {f:Int} {S:Txt} {l0:List Pr} {s:Sto} {M:List SR} {g:Seg} {l:List Rec}
theorem xF (G:FM):∀ (l:List Txt) (d:Dsk),srt d.files->l.Nodup->d.down=false->(∀ n∈l,fm d.files n≠none)->Out d (cX l d) l G (some (zz l (fm d.files)))
 | [],d,hs,_,hd,_=>⟨Dk.refl d,hs,.inr (.inl ⟨_,rfl,rfl,hd,by funext k;simp[zz,cX]⟩)⟩
 | n::l,d,hs,hn,hd,h=>by
  have hn:=List.nodup_cons.1 hn;obtain⟨v,hv⟩:=Option.ne_none_iff_exists'.1 (h n (by simp))
  have h1:=vV hs hv;have e2:cX (n::l) d=if(am d (bO d.files n)).2=0 then cX l (am d (bO d.files n)).1 else am d (bO d.files n):=by
   rw[cX];by_cases c:(am d (bO d.files n)).2=0
   ·rw[if_neg (by simp[c]),if_pos c]
   ·rw[if_pos c,if_neg c]
  rw[e2];refine Out.seq h1 (X2:=l) (g2:=some (zz (n::l) (fm d.files))) ?_ ?_ (by simp) (fun k hk=>by simp[hk]) (by simp) (by simp)
  ·intro h0 hd1 hf1 hs1;have h2:=xF G l (am d (bO d.files n)).1 hs1 hn.2 hd1 (fun k hk=>by
    rw[hf1,bm _ _ (fun e=>hn.1 (by rw[<- e];exact hk))];exact h k (by simp[hk]))
   rw[hf1] at h2;refine h2.eq rfl ?_;congr 1
   funext k
   unfold zz;by_cases c:k=n
   ·simp[c,hn.1,cR]
   ·by_cases c2:k∈l
    ·rw[if_pos c2,if_pos (List.mem_cons_of_mem _ c2)]
    ·rw[if_neg c2,if_neg (by simp[c,c2]),bm _ _ c]
  ·intro k hk;exact bm _ _ (fun e=>hk (by simp[e]))
theorem Out.back {d:Dsk} {r:Dsk × Int} {X:List Txt} {G g:FM} (h:Out d r X G (some g)) (l:List Txt) (hl:l.Nodup) (hn:∀ n∈l,g n≠none) (hg:∀ k,k ∉ X->k ∉ l->g k=fm d.files k) (hX:∀ n∈l,n∈X):Out d (if r.2=9 then cX l r.1 else r) X G (some (zz l g)):=by
 obtain⟨k1,s1,o1⟩:=h;rcases o1 with⟨e,hd,hf⟩|⟨q,hq,e,hd,hf⟩|⟨e,hd,hf⟩
 ·rw[if_neg (by rw[e];decide)]
  exact⟨k1,s1,.inl ⟨e,hd,hf⟩⟩
 ·cases hq;rw[if_pos e];have hb:=xF G l r.1 s1 hl hd (by rw[hf];exact hn)
  rw[hf] at hb;refine⟨k1.trans hb.1,hb.2.1,?_⟩;rcases hb.2.2 with o|o|⟨e2,hd2,hf2⟩
  ·exact .inl o
  ·exact .inr (.inl o)
  ·refine .inr (.inr ⟨e2,hd2,fun k hk=>?_⟩)
   have hkl:k ∉ l:=fun hm=>hk (hX k hm)
   rw[hf2 k hkl,hf];exact hg k hk hkl
 ·rw[if_neg (by rw[e];decide)]
  exact⟨k1,s1,.inr (.inr ⟨e,hd,hf⟩)⟩
theorem Re (F:FM) (n:Txt):zz [n] F=up F n none:=by
 funext k;unfold zz up;simp
theorem ER {F:FM} {a b:Txt} (v w:Option (Txt × Int)) (ha:F a=none) (hb:F b=none):zz [b,a] (up (up F a v) b w)=F:=by
 funext k;unfold zz up
 by_cases c1:k=b
 ·simp[c1,hb]
 ·by_cases c2:k=a
  ·simp[c2,ha]
  ·simp[c1,c2]
theorem K9 {d:Dsk} (hs:srt d.files) {n g x:Txt} {m:Man} (hm:manB m=true) (hn:dm n=true) (hg:dm g=true) (hng:n≠g) (hn2:n≠[110]) (hg2:g≠[110]) (h1:d.down=false->fm d.files [110]=none) (h2:d.down=false->fm d.files n=none) (h3:d.down=false->fm d.files g=none) :
  Out d (u0 n g x m d).1 [n,g,[110]] (up (up (up (fm d.files) n (some (x,((x.length:Nat):Int)))) g (some ([],0))) [109] (manV m)) (some (fm d.files)):=by
 by_cases hd:d.down=true
 ·unfold u0;rw[kf hd,if_pos (by simp)]
  exact .dn hs hd _ _ _
 ·have hd:d.down=false:=by simpa using hd
  have hF:=h2 hd;have hG:=h3 hd;have hN:=h1 hd;have k4:∀ d4:Dsk,srt d4.files->d4.down=false->fm d4.files=up (up (fm d.files) n (some (x,((x.length:Nat):Int)))) g (some ([],0))->Out d4 (u4 n g m d4).1 [n,g,[110]] (up (up (up (fm d.files) n (some (x,((x.length:Nat):Int)))) g (some ([],0))) [109] (manV m)) (some (fm d.files)):=by
   intro d4 hs4 hd4 hf4;have a1:=(n6 hs4 hm (fun _=>by rw[hf4,bm _ _ hg2.symm,bm _ _ hn2.symm];exact hN)).upX (Y:=[n,g,[110]]) (by simp)
   have a2:=a1.back [g,n] (by simp[hng.symm]) (by
    intro y hy;simp only[List.mem_cons,List.mem_nil_iff,or_false] at hy;rcases hy with rfl|rfl
    ·rw[hf4,cR];simp
    ·rw[hf4,bm _ _ hng,cR];simp) (fun _ _ _=>rfl) (by simp)
   have e:(u4 n g m d4).1=if(bR m (d4,0)).2=9 then cX [g,n] (bR m (d4,0)).1 else bR m (d4,0):=by unfold u4;split <;> rfl
   rw[e];rw[hf4] at a2;refine a2.eq rfl ?_;rw[ER _ _ hF hG]
  have k3:∀ d3:Dsk,srt d3.files->d3.down=false->fm d3.files=up (fm d.files) n (some (x,((x.length:Nat):Int)))->Out d3 (u3 n g m d3).1 [n,g,[110]] (up (up (up (fm d.files) n (some (x,((x.length:Nat):Int)))) g (some ([],0))) [109] (manV m)) (some (fm d.files)):=by
   intro d3 hs3 hd3 hf3;have a1:=mw hs3 hg (by rw[hf3,bm _ _ hng.symm];exact hG)
   have e:(u3 n g m d3).1=if(am d3 (bh d3.files g)).2=0 then(u4 n g m (am d3 (bh d3.files g)).1).1 else am d3 (bh d3.files g):=by
    unfold u3;by_cases c:(am d3 (bh d3.files g)).2=0
    ·rw[if_neg (by simp[c]),if_pos c]
    ·rw[if_pos c,if_neg c]
   rw[e];refine Out.seq a1 (g2:=some (fm d.files)) (fun h0 hd4 hf4 hs4=>k4 _ hs4 hd4 (by rw[hf4,hf3])) (fun y hy=>?_) (by simp) (fun _ h=>h) (by simp) (by simp)
   exact bm _ _ (fun e=>hy (by simp[e]))
  have k2:∀ d2:Dsk,srt d2.files->d2.down=false->fm d2.files=up (fm d.files) n (some (x,0))->Out d2 (u2 n g m d2).1 [n,g,[110]] (up (up (up (fm d.files) n (some (x,((x.length:Nat):Int)))) g (some ([],0))) [109] (manV m)) (some (fm d.files)):=by
   intro d2 hs2 hd2 hf2;have a1:=oC hs2 (n:=n) (v:=(x,0)) (by rw[hf2,cR])
   rw[hf2,iS] at a1;have e:(u2 n g m d2).1=if(am d2 (cq d2.files n)).2=0 then(u3 n g m (am d2 (cq d2.files n)).1).1 else am d2 (cq d2.files n):=by
    unfold u2;by_cases c:(am d2 (cq d2.files n)).2=0
    ·rw[if_neg (by simp[c]),if_pos c]
    ·rw[if_pos c,if_neg c]
   rw[e];refine Out.seq a1 (g2:=some (fm d.files)) (fun h0 hd4 hf4 hs4=>k3 _ hs4 hd4 hf4) (fun y hy=>?_) (by simp) (fun _ h=>h) (by simp) (by simp)
   rw[hf2,bm _ _ (fun e=>hy (by simp[e])),bm _ _ (fun e=>hy (by simp[e]))]
  have k1:∀ d1:Dsk,srt d1.files->d1.down=false->fm d1.files=up (fm d.files) n (some ([],0))->Out d1 (u1 n g x m d1).1 [n,g,[110]] (up (up (up (fm d.files) n (some (x,((x.length:Nat):Int)))) g (some ([],0))) [109] (manV m)) (some (fm d.files)):=by
   intro d1 hs1 hd1 hf1;have a1:=(qO hs1 x (n:=n) (v:=([],0)) (by rw[hf1,cR])).upX (Y:=[n,g,[110]]) (by simp)
   have a2:=a1.back [n] (by simp) (by
    intro y hy;rw[zV.1 hy,hf1,cR];simp) (fun _ _ _=>rfl) (by simp)
   rw[hf1,iS,Re,iS,kG hF] at a2;have e:(u1 n g x m d1).1=if(if(am d1 (bH d1.files d1.cap n x)).2=9 then cX [n] (am d1 (bH d1.files d1.cap n x)).1 else am d1 (bH d1.files d1.cap n x)).2=0 then(u2 n g m (if(am d1 (bH d1.files d1.cap n x)).2=9 then cX [n] (am d1 (bH d1.files d1.cap n x)).1 else am d1 (bH d1.files d1.cap n x)).1).1 else(if(am d1 (bH d1.files d1.cap n x)).2=9 then cX [n] (am d1 (bH d1.files d1.cap n x)).1 else am d1 (bH d1.files d1.cap n x)):=by
    unfold u1;by_cases c:(am d1 (bH d1.files d1.cap n x)).2=9
    ·rw[if_pos c,if_pos c,if_neg (Cc _ _)]
    ·rw[if_neg c,if_neg c];by_cases c0:(am d1 (bH d1.files d1.cap n x)).2=0
     ·rw[if_neg (by simp[c0]),if_pos c0]
     ·rw[if_pos c0,if_neg c0]
   rw[e];refine Out.seq a2 (X2:=[n,g,[110]]) (g2:=some (fm d.files)) (fun h0 hd4 hf4 hs4=>k2 _ hs4 hd4 hf4) (fun y hy=>?_) (fun _ h=>h) (fun _ h=>h) (by simp) (by simp)
   rw[hf1];exact(bm _ _ (fun e=>hy (by simp[e]))).trans (bm _ _ (fun e=>hy (by simp[e]))).symm
  have a1:=mw hs hn hF;have e:(u0 n g x m d).1=if(am d (bh d.files n)).2=0 then(u1 n g x m (am d (bh d.files n)).1).1 else am d (bh d.files n):=by
   unfold u0;by_cases c:(am d (bh d.files n)).2=0
   ·rw[if_neg (by simp[c]),if_pos c]
   ·rw[if_pos c,if_neg c]
  rw[e];refine Out.seq a1 (g2:=some (fm d.files)) (fun h0 hd4 hf4 hs4=>k1 _ hs4 hd4 hf4) (fun y hy=>?_) (by simp) (fun _ h=>h) (by simp) (by simp)
  exact bm _ _ (fun e=>hy (by simp[e]))
theorem wh:∀ (l:List Txt) (d:Dsk),yH l d=tP l (d,0)
 | [],d=>rfl
 | n::l,d=>by
  have e1:dw n (d,0)=am d (bO d.files n):=bn _ _;rw[nZ,e1,yH];split
  ·rename_i h0;rw[wh l,<- gA h0]
  ·rename_i h0;exact(wA l _ h0).symm
variable {k u:Nat} {f:Int} {S:Txt} {l0:List Pr} {s:Sto} {M:List SR} {g:Seg} {l:List Rec}
theorem Aw {ver at_:Int} {x:Txt} (hv:1<=ver∧ver<=1099511627776) (ha:0<at_∧at_<=1099511627776) (hx:1<=x.length∧x.length<=65536):manB (fe ver at_ x).man=true:=by
 refine vJ hv ⟨by simp[fe,Sto.man],by simp[fe,Sto.man]⟩ ?_ (.inr ⟨?_,?_⟩)
 ·show jK (-1) [at_]=true;simp[jK];omega
 ·show([at_]:List Int).head?≠some 0;simp;omega
 ·show 0<((x.length:Nat):Int)∧((x.length:Nat):Int)<=65536;omega
theorem xT (ho:okS k u s) (h:W f S l0 s M g l):(fw s).Nodup:=by
 have:=ri ho h s.segs.length;unfold jM at this;rw[List.take_length] at this;exact this
theorem C6 {x:Txt} {q:List Pr} (h:bA x=some q):1<=x.length:=by
 cases x with
 | nil=>simp[bA,ny] at h
 | cons a r=>simp
theorem WR.inst {R:List Rec} (ho:okS k u s) (h:WR f S l0 s R) (hv:u<1000000000000) (at_:Int) {x:Txt} (hx:x.length<=20000) :
  ((bf s at_ x).2=1∧(bf s at_ x).1=s∧(bA x=none∨at_<=s.next∨1099511627776<at_)) ∨
  ((∃ q,bA x=some q∧s.next<at_∧at_<=1099511627776 ∧
   ((((bf s at_ x).2=9∧(bf s at_ x).1.disk.down=false∧fm (bf s at_ x).1.disk.files=fm s.disk.files)∨((bf s at_ x).2=10∧(bf s at_ x).1.disk.down=true))∧(bf s at_ x).1={ s with disk:=(bf s at_ x).1.disk }∧srt (bf s at_ x).1.disk.files∧Dk s.disk (bf s at_ x).1.disk∧WR f S l0 (bf s at_ x).1 R ∨
   ((bf s at_ x).2=0∧(bf s at_ x).1.disk.down=false∨(bf s at_ x).2=10∧(bf s at_ x).1.disk.down=true)∧WR at_ x q (bf s at_ x).1 []∧(bf s at_ x).1.next=at_∧(bf s at_ x).1.sure=at_∧(bf s at_ x).1.disk.cap=s.disk.cap))):=by
 have h0:=h;have hsn:=h.sure;have hfl:=WR.floor h0;have hf0:0<=f:=by rw[<- hfl];exact(gU ho).1
 obtain⟨M,g,l,h,rfl⟩:=h;unfold bf;by_cases c0:bA x=none∨at_<=s.next∨1099511627776<at_
 ·rw[if_pos c0];exact .inl ⟨rfl,rfl,c0⟩
 ·rw[if_neg c0];simp only[not_or] at c0;obtain⟨q,hq⟩:=Option.ne_none_iff_exists'.1 c0.1;have hna:s.next<at_:=by omega
  have hab:at_<=1099511627776:=by omega
  have hxp:=C6 hq;have hv1:=(lP h.right).1.1;have hv2:=ho.ver;have hvm:s.man.ver=s.ver:=rfl;rw[hvm] at hv1;refine .inr ⟨q,hq,hna,hab,?_⟩;have hmr:manB (fe (s.ver+1) at_ x).man=true:=Aw (by omega) (by omega) (by omega)
  have hbase:∀ a∈s.segs,0<=a.base∧a.base<=s.next:=by
   intro a ha;have hn:=h.inv.next;have hcm:=dy _ _ _ h.inv.chain;refine⟨(ho.seg a ha).1.1,?_⟩;rw[h.inv.segs] at ha;rcases zX.1 ha with ha|ha
   ·obtain⟨p,hp,rfl⟩:=List.mem_map.1 ha;have:=hcm.2 p hp;omega
   ·rw[zV.1 ha];omega
  have nr1:¬ rel f s (aN at_):=W.not_rel ho (by omega) (by omega)
  have nr2:¬ rel f s (fileN at_):=by
   rintro(e|⟨b,hb,e⟩|⟨_,e⟩)
   ·exact absurd e (jE _ (by rw[bU];decide))
   ·have:=dF (by omega) (ho.seg b hb).1 e
    have:=hbase b hb;omega
   ·exact absurd e.symm (cT _ _)
  have none_of:∀ n,¬ rel f s n->s.disk.down=false->fm s.disk.files n=none:=fun n hn hd=>by
   cases hx:fm s.disk.files n with
   | none=>rfl
   | some v=>exact absurd (h.only hd n (by rw[hx];simp)) hn
  have hO:=K9 ho.dsk.srt (n:=aN at_) (g:=fileN at_) (x:=x) hmr (Ga _) (Ar _) (cT _ _) (zu _ (by rw[dx];decide)) (zu _ (by rw[bU];decide)) (none_of _ (my f s)) (none_of _ nr1) (none_of _ nr2)
  generalize (u0 (aN at_) (fileN at_) x (fe (s.ver+1) at_ x).man s.disk).1=e at *;by_cases c1:e.2=0
  ·rw[if_neg (by simp[c1])]
   rcases hO.2.2 with⟨_,hd,hf⟩|⟨_,_,e9,_⟩|⟨e10,_⟩
   ·refine .inr ?_;have hdn:=hO.1.up_of hd;have hmem:∀ m,m∈fw s↔(∃ a∈s.segs,m=fileN a.base)∨(0<f∧m=aN f):=by
     intro m;unfold fw;rw[zX,List.mem_map,hfl];constructor
     ·rintro(⟨a,ha,rfl⟩|hm)
      ·exact .inl ⟨a,ha,rfl⟩
      ·split at hm
       ·rename_i c;exact .inr ⟨c,zV.1 hm⟩
       ·cases hm
     ·rintro(⟨a,ha,rfl⟩|⟨hc,rfl⟩)
      ·exact .inl ⟨a,ha,rfl⟩
      ·rw[if_pos hc];exact .inr (by simp)
    have hne:∀ m∈fw s,m≠[109]∧m≠aN at_∧m≠fileN at_∧fm s.disk.files m≠none:=by
     intro m hm;have hr:rel f s m:=by
      rcases(hmem m).1 hm with hm|hm
      ·exact .inr (.inl hm)
      ·exact .inr (.inr hm)
     refine⟨?_,fun e=>nr1 (e ▸ hr),fun e=>nr2 (e ▸ hr),?_⟩
     ·rcases(hmem m).1 hm with⟨a,_,rfl⟩|⟨_,rfl⟩
      ·exact jE _ (by rw[bU];decide)
      ·exact jE _ (by rw[dx];decide)
     ·rcases(hmem m).1 hm with⟨a,ha,rfl⟩|⟨hc,rfl⟩
      ·rw[h.inv.segs] at ha;rcases zX.1 ha with ha|ha
       ·obtain⟨p,hp,rfl⟩:=List.mem_map.1 ha;rw[h.full p hp];simp
       ·rw[zV.1 ha];obtain⟨j,h1,_⟩:=h.last;rw[h1];simp
      ·rcases h.snp with⟨h1,_⟩|⟨_,h1,_⟩
       ·omega
       ·rw[h1];simp
    have hg:=vU (fw s) e.1 hO.2.1 (xT ho h) hd (fun m hm=>by
     have:=hne m hm;rw[hf,bm _ _ this.1,bm _ _ this.2.2.1,bm _ _ this.2.1];exact this.2.2.2)
    rw[wh];generalize tP (fw s) (e.1,0)=w at *;have n1:[109] ∉ fw s:=fun hm=>(hne _ hm).1 rfl
    have n2:aN at_ ∉ fw s:=fun hm=>(hne _ hm).2.1 rfl
    have n3:fileN at_ ∉ fw s:=fun hm=>(hne _ hm).2.2.1 rfl
    have hkeep:∀ m,m ∉ fw s->fm w.1.files m=fm e.1.files m:=by
     intro m hm;rcases hg.2.2 with⟨_,_,hf⟩|⟨_,hc,_⟩|⟨_,_,hf⟩
     ·rw[hf];exact if_neg hm
     ·cases hc
     ·exact hf m hm
    refine⟨?_,⟨[],⟨at_,0,0⟩,[],⟨⟨rfl,fun p hp=>?_,rfl,by show at_=at_+_;simp,by show 0<=at_∧at_<=at_;omega⟩,.inr ⟨by omega,?_,hq,rfl,rfl⟩,?_,hmr,fun p hp=>(by cases hp),⟨0,?_,by simp[rowS],by simp⟩,Int.le_refl _,fun hd2 m hm=>?_⟩,rfl⟩,rfl,rfl,hg.1.cap.trans hO.1.cap⟩
    ·rcases hg.2.2 with⟨a,b,_⟩|⟨_,hc,_⟩|⟨a,b,_⟩
     ·exact .inl ⟨a,b⟩
     ·cases hc
     ·exact .inr ⟨a,b⟩
    ·rw[List.nil_append,zV] at hp;subst hp;refine⟨(kT hg.2.1 _ _).2 ⟨0,?_⟩,fun r hr=>(by cases hr),fun i hi=>(by simp at hi),rfl,rfl⟩
     rw[hkeep _ n3,hf,bm _ _ (jE _ (by rw[bU];decide)),cR];rfl
    ·show fm w.1.files _=_;rw[hkeep _ n2,hf,bm _ _ (jE _ (by rw[dx];decide)),bm _ _ (cT _ _),cR]
    ·show fm w.1.files _=_;rw[hkeep _ n1,hf,cR];rfl
    ·show fm w.1.files _=_;rw[hkeep _ n3,hf,bm _ _ (jE _ (by rw[bU];decide)),cR];rfl
    ·have hm2:fm w.1.files m≠none:=hm;have hd3:w.1.down=false:=hd2;rcases hg.2.2 with⟨_,_,hfw⟩|⟨_,hc,_⟩|⟨_,b,_⟩
     ·rw[hfw] at hm2;unfold zz at hm2;by_cases c:m∈fw s
      ·rw[if_pos c] at hm2;exact absurd rfl hm2
      ·rw[if_neg c,hf] at hm2;by_cases a1:m=[109]
       ·exact .inl a1
       ·rw[bm _ _ a1] at hm2;by_cases a2:m=fileN at_
        ·exact .inr (.inl ⟨⟨at_,0,0⟩,by show _∈[(⟨at_,0,0⟩:Seg)];simp,a2⟩)
        ·rw[bm _ _ a2] at hm2;by_cases a3:m=aN at_
         ·exact .inr (.inr ⟨by omega,a3⟩)
         ·rw[bm _ _ a3] at hm2;rcases h.only hdn m hm2 with e|e|e
          ·exact absurd e a1
          ·exact absurd ((hmem m).2 (.inl e)) c
          ·exact absurd ((hmem m).2 (.inr e)) c
     ·cases hc
     ·rw[hd3] at b;cases b
   ·rw[e9] at c1;cases c1
   ·rw[e10] at c1;cases c1
  ·rw[if_pos c1];have hw:=h.fail ho.dsk.srt hO c1 (by
    intro m hm;simp only[List.mem_cons,List.mem_nil_iff,or_false] at hm;rcases hm with rfl|rfl|rfl
    ·exact nr1
    ·exact nr2
    ·exact my f s)
   refine .inl ⟨?_,rfl,hO.2.1,hO.1,M,g,l,hw.1,rfl⟩;rcases hw.2 with⟨a,b,c⟩|⟨a,b⟩
   ·exact .inl ⟨a,c,b⟩
   ·exact .inr ⟨a,b⟩
variable {k u:Nat}
def idl (p:Bool) (d:Dsk):Prop:=d.cap=0∧(p=true->d.armed=false∧d.down=false)
def i0 (p:Bool) (r:Dsk × Int):Prop:=idl p r.1∧r.2≠9∧(p=true->r.2≠10)
variable {p:Bool} {d:Dsk} {s:Dsk × Int} {t:Sto}
theorem Gr (h:idl p d) {r:List Fil × Int} (hr:r.2≠9∧r.2≠10):i0 p (am d r):=by
 obtain⟨h1,h2⟩:=h;unfold am;split
 ·rename_i c;exact⟨⟨h1,h2⟩,by simp,fun hp=>by rw[(h2 hp).2] at c;cases c⟩
 ·split
  ·exact⟨⟨h1,h2⟩,hr.1,fun _=>hr.2⟩
  ·split
   ·rename_i c;have hn:¬ p=true:=fun hp=>by rw[(h2 hp).1] at c;cases c
    split
    ·exact⟨⟨h1,fun hp=>absurd hp hn⟩,by simp,fun hp=>absurd hp hn⟩
    ·exact⟨⟨h1,fun hp=>absurd hp hn⟩,by simp,fun hp=>absurd hp hn⟩
   ·exact⟨⟨h1,h2⟩,by simp,by simp⟩
theorem FA (h:idl p d) (n:Txt):i0 p (am d (bh d.files n)):=Gr h (by
 unfold bh;split
 ·split <;> simp
 ·simp)
theorem I7 (h:idl p d) (n x:Txt):i0 p (am d (bH d.files d.cap n x)):=Gr h (by
 unfold bH;rw[h.1];split
 ·simp
 ·simp)
theorem Ix (h:idl p d) (n:Txt):i0 p (am d (cq d.files n)):=Gr h (by unfold cq;split <;> simp)
theorem NZ (h:idl p d) (n:Txt):i0 p (am d (bO d.files n)):=Gr h (by unfold bO;split <;> simp)
theorem Rv (h:idl p d) (n t:Txt):i0 p (am d (ii d.files n t)):=Gr h (by
 unfold ii;split
 ·split <;> simp
 ·simp)
theorem tF {f:Dsk->Dsk × Int} (h:i0 p s) (hf:idl p s.1->i0 p (f s.1)):i0 p (uL s f):=by
 unfold uL;split
 ·exact hf h.1
 ·exact h
theorem H7 (h:i0 p s) (n:Txt):cN n s=s:=by unfold cN;rw[if_pos h.2.1]
theorem HA (h:i0 p s) (m:Man):i0 p (bR m s):=by
 unfold bR;simp only[];have h1:i0 p (if s.2=0 then(s.1,(bC m).2) else s):=by
  split
  ·exact⟨h.1,by unfold bC;split <;> simp,by unfold bC;split <;> simp⟩
  ·exact h
 generalize (if s.2=0 then(s.1,(bC m).2) else s)=s1 at *
 have h2:i0 p (if(bZ s1.1.files [110]).2=0 then dw [110] s1 else s1):=by
  split
  ·exact tF h1 fun h=>NZ h _
  ·exact h1
 generalize (if(bZ s1.1.files [110]).2=0 then dw [110] s1 else s1)=s2 at *
 have h3:i0 p (bL [110] s2):=tF h2 fun h=>FA h _
 split
 ·exact h3
 ·have h4:i0 p (fD [110] (bC m).1 (bL [110] s2)):=tF h3 fun h=>I7 h _ _
  rw[H7 h4];have h5:i0 p (fO [110] (fD [110] (bC m).1 (bL [110] s2))):=tF h4 fun h=>Ix h _
  exact tF h5 fun h=>Rv h _ _
theorem La:∀ (l:List Txt) (s:Dsk × Int),i0 p s->i0 p (tP l s)
 | [],s,h=>h
 | n::l,s,h=>La l _ (tF h fun h=>NZ h n)
theorem Sr (h:idl p d) (n g x:Txt) (m:Man):i0 p (u0 n g x m d).1:=by
 have p4:∀ d:Dsk,idl p d->i0 p (u4 n g m d).1:=fun d h=>by
  have h2:=HA (s:=(d,0)) ⟨h,by simp,by simp⟩ m
  unfold u4;rw[if_neg h2.2.1];exact h2
 have p3:∀ d:Dsk,idl p d->i0 p (u3 n g m d).1:=fun d h=>by
  have h2:=FA h g;unfold u3;split
  ·exact h2
  ·exact p4 _ h2.1
 have p2:∀ d:Dsk,idl p d->i0 p (u2 n g m d).1:=fun d h=>by
  have h2:=Ix h n;unfold u2;split
  ·exact h2
  ·exact p3 _ h2.1
 have p1:∀ d:Dsk,idl p d->i0 p (u1 n g x m d).1:=fun d h=>by
  have h2:=I7 h n x;unfold u1;rw[if_neg h2.2.1];split
  ·exact h2
  ·exact p2 _ h2.1
 have h2:=FA h n;unfold u0;split
 ·exact h2
 ·exact p1 _ h2.1
def j0 (p:Bool) (t:Sto) (r:Sto × Int):Prop:=i0 p (r.1.disk,r.2)∧r.1.ver<=t.ver+1
theorem N8 (h:idl p t.disk) (at_:Int) (x:Txt):j0 p t (bf t at_ x):=by
 unfold bf;split
 ·exact⟨⟨h,by simp,by simp⟩,by show t.ver<=_;omega⟩
 ·have h2:=Sr h (aN at_) (fileN at_) x (fe (t.ver+1) at_ x).man;split
  ·exact⟨h2,by show t.ver<=_;omega⟩
  ·rename_i hc;refine⟨?_,Int.le_refl _⟩;show i0 p (yH _ _);rw[wh];exact La (fw t) ((u0 (aN at_) (fileN at_) x (fe (t.ver+1) at_ x).man t.disk).1.1,0) ⟨h2.1,by simp,by simp⟩
theorem Kt (h:idl p t.disk):i0 p ((aT t).1.disk,(aT t).2)∧(aT t).1.ver=t.ver:=⟨Ix h (fileN t.last.base),rfl⟩
theorem Oq (h:idl p t.disk) (hl:t.segs.length<64):j0 p t (co t):=by
 unfold co;rw[if_neg (by omega)]
 have h1:=(Kt h).1;split
 ·exact⟨h1,by show t.ver<=_;omega⟩
 ·have h2:i0 p (dW (aT t).1):=by
   unfold dW;simp only[];have h3:i0 p (bL (fileN (aT t).1.next) ((aT t).1.disk,0)):=tF ⟨h1.1,by simp,by simp⟩ fun h=>FA h _
   split
   ·have h4:=HA h3 (jB (aT t).1).man;rw[H7 h4];exact h4
   ·exact h3
  split
  ·exact⟨⟨h2.1,by simp,by simp⟩,Int.le_refl _⟩
  ·exact⟨h2,by show t.ver<=_;omega⟩
theorem Ob (h:idl p t.disk) (x:Txt):i0 p ((fN t x).1.disk,(fN t x).2)∧(fN t x).1.ver=t.ver:=by
 have h1:=I7 h (fileN t.last.base) x;unfold fN;simp only[];split
 ·exact⟨h1,rfl⟩
 ·exact⟨⟨h1.1,by simp,by simp⟩,rfl⟩
theorem Nf (h:idl p t.disk) (hl:t.segs.length<64) (seg:Int) (r:Rec):j0 p t (eg t seg r):=by
 have h1:=Oq h hl;unfold eg;split
 ·exact⟨⟨h,by simp,by simp⟩,by show t.ver<=_;omega⟩
 ·split
  ·exact⟨⟨h,by simp,by simp⟩,by show t.ver<=_;omega⟩
  ·split
   ·split
    ·exact h1
    ·have h2:=Ob h1.1.1 (dS r).1;exact⟨h2.1,by rw[h2.2];exact h1.2⟩
   ·have h2:=Ob h (dS r).1;exact⟨h2.1,by rw[h2.2];omega⟩
theorem Qq (h:idl p d) (n x:Txt) (m:Man):i0 p (nz d n x m):=by
 unfold nz;simp only[];have h1:i0 p (bL n (d,0)):=tF ⟨h,by simp,by simp⟩ fun h=>FA h _
 have h2:i0 p (if(bL n (d,0)).2=0 then cN n (fD n x (bL n (d,0))) else bL n (d,0)):=by
  split
  ·have h3:i0 p (fD n x (bL n (d,0))):=tF h1 fun h=>I7 h _ _
   rw[H7 h3];exact h3
  ·exact h1
 generalize (if(bL n (d,0)).2=0 then cN n (fD n x (bL n (d,0))) else bL n (d,0))=s2 at *
 have h3:i0 p (fO n s2):=tF h2 fun h=>Ix h _
 split
 ·have h4:=HA h3 m;rw[H7 h4];exact h4
 ·exact h3
theorem MY (h:idl p t.disk) (keep count:Int):j0 p t (cM t keep count):=by
 unfold cM;split
 ·exact⟨⟨h,by simp,by simp⟩,by show t.ver<=_;omega⟩
 ·unfold rC;simp only[];have h1:=Qq h (aN (aU t.segs (d8 t.segs keep count))) (aZ (bJ t (aU t.segs (d8 t.segs keep count)))) (eb t (d8 t.segs keep count)).man;split
  ·exact⟨h1,by show t.ver<=_;omega⟩
  ·rw[Ad];exact⟨La _ _ h1,Int.le_refl _⟩
def pG (l:List Fil):List Txt:=l.map Fil.name
variable {k u:Nat} {f:Int} {S:Txt} {l0:List Pr} {s:Sto} {M:List SR} {g:Seg} {l:List Rec}
theorem uk {l:List Fil} (h:srt l):(pG l).Nodup:=by
 unfold pG List.Nodup;rw[List.pairwise_map];refine List.Pairwise.imp ?_ h;intro a b hab e;rw[e,kH] at hab;cases hab
variable {k u:Nat} {f:Int} {S:Txt} {l0:List Pr} {s:Sto} {M:List SR} {g:Seg} {l:List Rec}
theorem xP:∀ (l m:List Txt),l.Nodup->(∀ x∈l,x∈m)->l.length<=m.length
 | [],m,_,_=>Nat.zero_le _
 | x::l,m,h,hs=>by
  obtain⟨h1,h2⟩:=List.nodup_cons.1 h;have hx:=hs x (by simp)
  have e:=List.length_erase_of_mem hx;have ih:=xP l (m.erase x) h2 fun y hy=>by
   have hne:y≠x:=fun e=>h1 (e ▸ hy)
   exact(List.mem_erase_of_ne hne).2 (hs y (by simp[hy]))
  have:=List.length_pos_of_mem hx;rw[List.length_cons];omega
theorem Bh (n:Txt) (b:Nat):∀ l:List Fil,(pG l).Nodup->(∀ f∈l,f.data.length<=65536)->(∀ f∈l,f.name≠n->f.data.length<=b)->usedF l<=l.length*b+65536
 | [],_,_,_=>by simp[usedF]
 | x::l,h,h1,h2=>by
  have e:usedF (x::l)=x.data.length+usedF l:=by simp[usedF]
  have hn:=List.nodup_cons.1 h;rw[e,List.length_cons,Nat.add_mul];by_cases c:x.name=n
  ·have:=BG l b fun y hy=>h2 y (by simp[hy]) fun e=>hn.1 (by
    rw[c,<- e];exact List.mem_map_of_mem hy)
   have:=h1 x (by simp)
   omega
  ·have:=Bh n b l hn.2 (fun y hy=>h1 y (by simp[hy])) fun y hy=>h2 y (by simp[hy])
   have:=h2 x (by simp) c
   omega
theorem yv:∀ (M:List SR) (b e:Int),chainM b M e->M.length<=(aX M).length
 | [],_,_,_=>Nat.zero_le _
 | q::M,b,e,h=>by
  have:=yv M _ _ h.2.2;have e1:aX (q::M)=q.2++aX M:=rfl;have:=h.2.1;rw[e1,zA,List.length_cons];omega
theorem WR.segs_le {R:List Rec} (h:WR f S l0 s R):1<=s.segs.length∧s.segs.length<=R.length+1:=by
 obtain⟨M,g,l,h,rfl⟩:=h;have:=yv M _ _ h.inv.chain;rw[h.inv.segs,cJ,eJ,zA,zA,zM,List.length_singleton];omega
theorem Km {l:List Fil} (hs:srt l) {x:Fil} (hx:x∈l):fm l x.name=some (x.data,x.sure):=by
 obtain⟨i,hi,rfl⟩:=zJ hx;rw[(ph hs hi).1,cR]
theorem WR.few {R:List Rec} (ho:okS k u s) (h:WR f S l0 s R) (hd:s.disk.down=false) (hR:R.length<=40) (hv:s.ver<=300000):okS 70 300000 s:=by
 have hsl:=h.segs_le;obtain⟨M,g,l,h,rfl⟩:=h;have hs:=ho.dsk.srt;have hmt:=lP h.right;have hrec:∀ p∈M++[(g,l)],p.2.length<=40:=fun p hp=>by
  obtain⟨A,B,e⟩:=List.append_of_mem hp;rw[e] at hR;have e2:aX (A++p::B)=aX A++(p.2++aX B):=by rw[cJ];rfl
  rw[e2,zA,zA] at hR;omega
 have hrow:∀ p∈M++[(g,l)],(rowS p.2).length<=3280:=fun p hp=>by
  have:=Jf (h.inv.file p hp).why;have:=hrec p hp;omega
 have hat:∀ a∈s.segs,∃ p∈M++[(g,l)],p.1=a:=fun a ha=>by
  rw[h.inv.segs] at ha;rcases zX.1 ha with ha|ha
  ·obtain⟨p,hp,rfl⟩:=List.mem_map.1 ha;exact⟨p,by simp[hp],rfl⟩
  ·rw[zV.1 ha];exact⟨(g,l),by simp,rfl⟩
 have hS:0<f->S.length<=65536:=fun hf=>by
  rcases h.snp with h1|⟨_,_,_,h4,_⟩
  ·omega
  ·have hz:=GI h.right;have e:s.man.size=s.size:=rfl;rw[e] at hz;rcases hz with hz|hz <;> omega
 have hrel:∀ x∈s.disk.files,rel f s x.name:=fun x hx=>h.only hd _ (by rw[Km hs hx];simp)
 have hdat:∀ x∈s.disk.files,x.data.length<=65536∧(x.name≠aN f->x.data.length<=3280):=fun x hx=>by
  have hfx:=Km hs hx;rcases hrel x hx with e|⟨a,ha,e⟩|⟨hf,e⟩
  ·rw[e,h.man] at hfx;have h2:ct s.man=x.data:=congrArg Prod.fst (Option.some.inj hfx);have h3:(ct s.man).length<=3280:=by
    have:=kE s.man;unfold bC at this;rw[if_pos h.right] at this;exact Nat.le_trans this (by decide)
   rw[h2] at h3;exact⟨by omega,fun _=>h3⟩
  ·obtain⟨p,hp,rfl⟩:=hat a ha;obtain⟨q,hq⟩:=(kT hs _ _).1 (h.inv.file p hp).has;rw[<- e,hfx] at hq;have h2:x.data=rowS p.2:=congrArg Prod.fst (Option.some.inj hq);have:=hrow p hp;rw[<- h2] at this;exact⟨by omega,fun _=>this⟩
  ·rcases h.snp with h1|⟨_,h2,_⟩
   ·omega
   ·rw[e,h2] at hfx;have h3:S=x.data:=congrArg Prod.fst (Option.some.inj hfx);rw[<- h3];exact⟨hS hf,fun hn=>absurd e hn⟩
 have hlen:s.disk.files.length<=70:=by
  have:=xP (pG s.disk.files) ([109]::(s.segs.map (fun a=>fileN a.base)++[aN f])) (uk hs) fun n hn=>by
   obtain⟨x,hx,rfl⟩:=List.mem_map.1 hn;rcases hrel x hx with e|⟨a,ha,e⟩|⟨hf,e⟩
   ·rw[e];simp
   ·rw[e];exact List.mem_cons_of_mem _ (List.mem_append_left _ (List.mem_map_of_mem ha))
   ·rw[e];simp
  have e:(pG s.disk.files).length=s.disk.files.length:=by simp[pG]
  rw[e,List.length_cons,zA,zM,List.length_singleton] at this;omega
 refine⟨⟨hlen,hs,ho.dsk.left,ho.dsk.cap,?_⟩,ho.len,fun a ha=>?_,ho.next,⟨ho.ver.1,by omega⟩,ho.sum⟩
 ·have:=Bh (aN f) 3280 s.disk.files (uk hs) (fun x hx=>(hdat x hx).1) fun x hx=>(hdat x hx).2
  omega
 ·obtain⟨p,hp,rfl⟩:=hat a ha;have hf:=h.inv.file p hp;have h1:=hrec p hp;have h2:=hrow p hp;refine⟨(ho.seg _ ha).1,?_,?_⟩
  ·rw[hf.n];omega
  ·rw[hf.size];omega
def hE (l:List Rec):List D:=[.l (l.map Rec.enc)]
theorem Gt (l:List Rec):(hE l).length=1:=Eq.trans rfl rfl
def frst (l:List Rec):Int:=(l.headD ⟨0,0,[]⟩).at_
def Gj (f:Rec->Nat):List Rec->Nat
 | []=>0
 | r::l=>f r+Gj f l
def f7 (l:List Rec):Nat:=Gj gc l
def bytH:List (List Rec)->Nat
 | []=>0
 | l::h=>f7 l+bytH h
structure okB (l:List Rec):Prop where
 len:1<=l.length∧l.length<=100
 at_:0<=frst l∧frst l<=1099511627776
 ok:∀ r∈l,r.ok
structure okH (h:List (List Rec)):Prop where
 len:h.length<=1000
 all:∀ l∈h,okB l
 srt:h.Pairwise fun a b=>frst a<frst b
theorem nT:∀ l:List Rec,f7 l<=82*l.length
 | []=>by simp[f7,Gj]
 | r::l=>by
  have:=nT l;have:=xW (r:=r);have e:f7 (r::l)=gc r+f7 l:=rfl;rw[e,List.length_cons];omega
theorem uh (l:List Rec) (i:Nat) (h:i<l.length):f7 (l.drop i)=gc l[i]+f7 (l.drop (i+1)):=by rw[zD h];rfl
theorem vW:∀ h:List (List Rec),(∀ l∈h,okB l)->bytH h<=8200*h.length
 | [],_=>by simp[bytH]
 | l::h,hh=>by
  have:=vW h fun x hx=>hh x (by simp[hx])
  have:=nT l;have:=(hh l (by simp)).len
  simp only[bytH,List.length_cons];omega
theorem Dg (h:List (List Rec)) (i:Nat) (hi:i<h.length):bytH (h.drop i)=f7 h[i]+bytH (h.drop (i+1)):=by rw[zD hi];rfl
theorem qx (l:List Rec) (hl:l.length<=1000) (hr:∀ r∈l,r.ok):call 69 [vl (l.map Rec.enc)] []=some (vi (f7 l:Nat),[]):=by
 have hb:=nT l;apply ah R7 rfl;(simp(disch:=first|decide|omega|(intros;exact aj rfl rfl)|simp only[aa]) only[aF,PB,zM,go_sem,seval,ak])
 refine aB (m:=0) (σ:=Nat × Nat) (fun t=>l.length-t.1) (fun t=>t.1<=l.length∧t.2+f7 (l.drop t.1)=f7 l) (fun t=>[vi t.2,vl (l.map Rec.enc),vi l.length,vi t.1]) (fun _=>[]) (fun _=>(vi (f7 l:Nat),[])) ?_ (0,0) ⟨zP _,by simp⟩ _ _ cm
 rintro⟨i,n⟩ ⟨h1,h2⟩ R hR;simp only at h1 h2 ⊢;by_cases c:i<l.length
 ·have hc:(i:Int)<(l.length:Int):=by omega
  have g1:(l.map Rec.enc)[i]?=some l[i].enc:=by rw[zG,zE c];rfl
  rw[uh l i c] at h2;have q:=wn l[i] (hr _ (zN c));have hK:=hR (i+1,n+gc l[i]) (by simp only[];omega) ⟨by simp only[];omega,by simp only[];omega⟩
  clear hR;generalize l[i]=r at *;obtain⟨a,b,d⟩:=r;simp only[Rec.enc,List.map_cons,List.map_nil] at g1 q;have e:((n+gc ⟨a,b,d⟩:Nat):Int)=(n:Int)+(gc ⟨a,b,d⟩:Nat):=by omega
  simp only[e] at hK;generalize gc ⟨a,b,d⟩=z at *;(simp(disch:=first|decide|omega|(intros;exact aj rfl rfl)|simp only[aa]) only[aF,Fq,zT hc,g1,q,go_sem,seval,ak])
  exact hK _ _ cm
 ·have hc:¬ (i:Int)<(l.length:Int):=by omega
  rw[zC (by omega)] at h2
  have h3:n=f7 l:=by simpa[f7,Gj] using h2
  rw[h3];(simp(disch:=first|decide|omega|(intros;exact aj rfl rfl)|simp only[aa]) only[aF,Fq,PB,zF hc,go_sem,seval,ak])
  try simp[trim]
theorem yu (h:List (List Rec)) (hh:okH h):call 45 [vl (h.map hE)] []=some (vi (bytH h:Nat),[]):=by
 have hb:=vW h hh.all;have hl:=hh.len;apply ah Se rfl;(simp(disch:=first|decide|omega|(intros;exact aj rfl rfl)|simp only[aa]) only[aF,P8,zM,go_sem,seval,ak])
 refine aB (m:=0) (σ:=Nat × Nat) (fun t=>h.length-t.1) (fun t=>t.1<=h.length∧t.2+bytH (h.drop t.1)=bytH h) (fun t=>[vi t.2,vl (h.map hE),vi h.length,vi t.1]) (fun _=>[]) (fun _=>(vi (bytH h:Nat),[])) ?_ (0,0) ⟨zP _,by simp⟩ _ _ cm
 rintro⟨i,n⟩ ⟨h1,h2⟩ R hR;simp only at h1 h2 ⊢;by_cases c:i<h.length
 ·have hc:(i:Int)<(h.length:Int):=by omega
  have g1:(h.map hE)[i]?=some [.l (h[i].map Rec.enc)]:=by rw[zG,zE c];rfl
  rw[Dg h i c] at h2;have ho:=hh.all _ (zN c);have hlo:=ho.len;have q:=qx h[i] (by omega) ho.ok
  have hK:=hR (i+1,n+f7 h[i]) (by simp only[];omega) ⟨by simp only[];omega,by simp only[];omega⟩
  clear hR;have e:((n+f7 h[i]:Nat):Int)=(n:Int)+(f7 h[i]:Nat):=by omega
  simp only[e] at hK;generalize f7 h[i]=z at *;generalize h[i].map Rec.enc=Q at *;(simp(disch:=first|decide|omega|(intros;exact aj rfl rfl)|simp only[aa]) only[aF,EH,zT hc,g1,q,go_sem,seval,ak])
  exact hK _ _ cm
 ·have hc:¬ (i:Int)<(h.length:Int):=by omega
  rw[zC (by omega)] at h2
  have h3:n=bytH h:=by simpa[bytH] using h2
  rw[h3];(simp(disch:=first|decide|omega|(intros;exact aj rfl rfl)|simp only[aa]) only[aF,EH,P8,zF hc,go_sem,seval,ak])
  try simp[trim]
def dj (h:List (List Rec)) (off:Int):Nat:=h.countP fun l=>decide (frst l<off)
def u9 (h:List (List Rec)) (off:Int):Bool:=match h[dj h off]? with|some l=>decide (frst l=off)|none=>false
theorem wW {h:List (List Rec)} (hs:h.Pairwise fun a b=>frst a<frst b) (off:Int) (i:Nat) (hi:i<h.length):frst h[i]<off↔i<dj h off:=by
 have:=oM (fun l:List Rec=>decide (frst l<off)) h (hs.imp (fun hab hb=>by simp at hb ⊢;omega)) i hi
 simpa[dj] using this
theorem vo (h:List (List Rec)) (off:Int):dj h off<=h.length:=List.countP_le_length
def py (h:List (List Rec)) (off:Int):V:=.tup [(false,[zI (dj h off:Nat)]),(false,[zB (u9 h off)])]
theorem vK {l:List Rec} (h:1<=l.length):∃ r:Rec,(l.map Rec.enc)[0]?=some [.i .i64 (frst l),.i .i64 r.ti,.s r.da]:=by
 cases l with
 | nil=>simp at h
 | cons r l=>exact⟨r,rfl⟩
theorem Kv (l:List Rec) (h:okB l) (off:Int) (ho:0<=off∧off<=1099511627776) (H:Hp):au call 81 [vl (l.map Rec.enc),vi off] H=some (vi (frst l-off),H) :=
 callIso_pure rfl (by
  obtain⟨r,g1⟩:=vK h.len.1;have ha:=h.at_;have hl:0<(l.map Rec.enc).length:=by have:=h.len.1;simp;omega
  apply ah Sa rfl;(simp(disch:=first|decide|omega|(intros;exact aj rfl rfl)|simp only[aa]) only[RC,g1,hl,go_sem,seval,ak])
  try simp[trim]) rfl
theorem FQ (h:List (List Rec)) (hh:okH h) (off:Int) (ho:0<=off∧off<=1099511627776):call 80 [vl (h.map hE),vi off,.one (.f 81 [])] []=some (py h off,[]):=by
 apply ah SE rfl;have hl:=hh.len;obtain⟨Z,hZ⟩:∃ Z:V × Hp,Z=(py h off,[]):=⟨_,rfl⟩;rw[<- hZ];(simp(disch:=first|decide|omega|(intros;exact aj rfl rfl)|simp only[aa]) only[RH,go_sem,seval,ak])
 refine aB (m:=0) (σ:=Nat × Nat) (fun t=>t.2-t.1) (fun t=>t.1<=dj h off∧dj h off<=t.2∧t.2<=h.length) (fun t=>[vl (h.map hE),vi off,.one (.f 81 []),vi h.length,vi t.1,vi t.2]) (fun t=>[])
  (fun t=>Z) ?_ (0,h.length) ⟨zP _,vo h off,Nat.le_refl _⟩ _ _ cm
 rintro⟨lo,hi⟩ ⟨h1,h2,h3⟩ R hR;simp only at h1 h2 h3 ⊢;by_cases c:lo<hi
 ·have hm:=IF lo hi;have hmid:(lo+hi) / 2<h.length:=by omega
  have hp:=wW hh.srt off _ hmid;have hob:=hh.all _ (zN hmid);obtain⟨mid,hmd⟩:∃ mid,mid=(lo+hi) / 2:=⟨_,rfl⟩;simp only[<- hmd] at hm hmid hp hob;have g1:(h.map hE)[mid]?=some [.l (h[mid].map Rec.enc)]:=by rw[zG,zE hmid];rfl
  have hc:=Kv h[mid] hob off ho;by_cases c2:frst h[mid]<off
  ·have:=hp.1 c2;have hcn:frst h[mid]-off<0:=by omega
   (simp(disch:=first|decide|omega|(intros;exact aj rfl rfl)|simp only[aa]) only[uM,↓wL,hm,g1,↓hc,hcn,go_sem,seval,ak])
   exact hR (mid+1,hi) (by simp only[];omega) ⟨by simp only[];omega,h2,h3⟩ _ _ cm
  ·have:¬ mid<dj h off:=fun h=>c2 (hp.2 h)
   have hcn:¬ frst h[mid]-off<0:=by omega
   (simp(disch:=first|decide|omega|(intros;exact aj rfl rfl)|simp only[aa]) only[uM,↓wL,hm,g1,↓hc,hcn,go_sem,seval,ak])
   exact hR (lo,mid) (by simp only[];omega) ⟨h1,by simp only[];omega,by simp only[];omega⟩ _ _ cm
 ·have hlo:lo=dj h off:=by omega
  subst hlo;by_cases c0:dj h off<h.length
  ·have g1:(h.map hE)[dj h off]?=some [.l (h[dj h off].map Rec.enc)]:=by rw[zG,zE c0];rfl
   have hhas:u9 h off=decide (frst h[dj h off]=off):=by unfold u9;rw[zE c0]
   have hc:=Kv h[dj h off] (hh.all _ (zN c0)) off ho;by_cases c3:frst h[dj h off]=off
   ·have hcz:frst h[dj h off]-off=0:=by omega
    (simp(disch:=first|decide|omega|(intros;exact aj rfl rfl)|simp only[aa]) only[uM,c,c0,g1,↓hc,hcz,go_sem,seval,ak])
    rw[hZ];simp[py,hhas,c3]
   ·have hcz:¬ frst h[dj h off]-off=0:=by omega
    (simp(disch:=first|decide|omega|(intros;exact aj rfl rfl)|simp only[aa]) only[uM,c,c0,g1,↓hc,hcz,go_sem,seval,ak])
    rw[hZ];simp[py,hhas,c3]
  ·have hhas:u9 h off=false:=by unfold u9;rw[List.getElem?_eq_none (by omega)]
   (simp(disch:=first|decide|omega|(intros;exact aj rfl rfl)|simp only[aa]) only[uM,c,c0,go_sem,seval,ak])
   rw[hZ];simp[py,hhas]
def Cw (h:List (List Rec)) (l:List Rec) (next most bytes:Int):List (List Rec) :=
 if l.length=0∨frst l<=next∨most<=(h.length:Int)∨u9 h (frst l)=true∨bytes<(bytH h:Int)+(f7 l:Nat) then h else h.take (dj h (frst l))++l::h.drop (dj h (frst l))
theorem Fo (h:List (List Rec)) (hh:okH h) (l:List Rec) (hl:l.length=0∨okB l) (next most bytes:Int):call 61 [vl (h.map hE),vl (l.map Rec.enc),vi next,vi most,vi bytes] []=some (vl ((Cw h l next most bytes).map hE),[]):=by
 unfold Cw;have hlen:=hh.len;apply ah Si rfl;by_cases c1:l.length=0
 ·rw[if_pos (.inl c1)];(simp(disch:=first|decide|omega|(intros;exact aj rfl rfl)|simp only[aa]) only[aF,Ll,c1,zM,go_sem,seval,ak])
  try simp[trim]
 ·have hb:=hl.resolve_left c1;obtain⟨r,g1⟩:=vK hb.len.1;have c1':¬ ((l.length:Nat):Int)=0:=by omega
  have c1n:0<l.length:=by omega
  by_cases c2:frst l<=next
  ·rw[if_pos (.inr (.inl c2))];(simp(disch:=first|decide|omega|(intros;exact aj rfl rfl)|simp only[aa]) only[aF,Ll,eq_false c1',g1,zT c2,zM,go_sem,seval,ak])
   try simp[trim]
  ·by_cases c3:most<=(h.length:Int)
   ·rw[if_pos (.inr (.inr (.inl c3)))];(simp(disch:=first|decide|omega|(intros;exact aj rfl rfl)|simp only[aa]) only[aF,Ll,eq_false c1',g1,zF c2,zT c3,zM,go_sem,seval,ak])
    try simp[trim]
   ·have q:=FQ h hh (frst l) hb.at_;have hpl:=vo h (frst l);unfold py at q;by_cases c4:u9 h (frst l)=true
    ·rw[if_pos (.inr (.inr (.inr (.inl c4))))];rw[c4] at q;have q:=fun H:Hp=>callIso_pure (H:=H) rfl q rfl
     (simp(disch:=first|decide|omega|(intros;exact aj rfl rfl)|simp only[aa]) only[aF,Ll,eq_false c1',g1,zF c2,zF c3,q,zM,go_sem,seval,ak])
     try simp[trim]
    ·have c4':u9 h (frst l)=false:=by simpa using c4
     rw[c4'] at q;have q:=fun H:Hp=>callIso_pure (H:=H) rfl q rfl
     have q2:=yu h hh;have q3:=qx l (by have:=hb.len;omega) hb.ok
     have hbl:=vW h hh.all;have hwl:=nT l;have hll:=hb.len;by_cases c5:bytes<(bytH h:Int)+(f7 l:Nat)
     ·rw[if_pos (.inr (.inr (.inr (.inr c5))))];(simp(disch:=first|decide|omega|(intros;exact aj rfl rfl)|simp only[aa]) only[aF,Ll,eq_false c1',g1,zF c2,zF c3,q,q2,q3,zT c5,zM,go_sem,seval,ak])
      try simp[trim]
     ·rw[if_neg (by simp[c1,c2,c3,c4',c5])]
      have hcl:=Sz (h.map hE) (aV Gt _) (by simp;omega) (by simp;omega)
      have hi0:=vO (l:=lib) (an:=qy Hj) (P:=Tryz.prog) (f:=82) (k:=1) (bytes:=24) rfl rfl (h.map hE) (hE l) (dj h (frst l)) 0 rfl (by simpa using hpl) (by simp;omega) (by simp;omega)
      have em:(h.map hE).take (dj h (frst l))++hE l::(h.map hE).drop (dj h (frst l))=(h.take (dj h (frst l))++l::h.drop (dj h (frst l))).map hE:=by simp
      rw[em,zM] at hi0;have hln:(h.take (dj h (frst l))++l::h.drop (dj h (frst l))).length=h.length+1:=by simp;omega
      generalize h.take (dj h (frst l))++l::h.drop (dj h (frst l))=G at *;have htk:(G.map hE).take (h.length+1)=G.map hE:=zL (by simp;omega)
      have hi:∀ B:Box,au call 82 [.one (.sl 1 1 0 h.length),vi (dj h (frst l):Nat),.one (.sl 2 1 0 1)] [B,.arr 1 (h.map hE) 0,.arr 1 [[.l (l.map Rec.enc)]] 0]=some (.one (.sl 3 1 0 (h.length+1)),[B,.dead,.arr 1 [[.l (l.map Rec.enc)]] 0,.arr 1 (G.map hE) 0]):=fun B =>
       aE (ids:=[1,2]) rfl rfl rfl hi0 rfl
      (simp(disch:=first|decide|omega|(intros;exact aj rfl rfl)|simp only[aa]) only[aF,Ll,eq_false c1',g1,zF c2,zF c3,q,q2,q3,zF c5,↓hcl,↓hi,zM,htk,hln,go_sem,seval,ak])
def fZ:List (List Rec)->Int->List Rec->List Rec × List (List Rec)
 | [],_,out=>(out,[])
 | l::h,next,out=>if next<frst l then(out,l::h) else if next<frst l+(l.length:Nat) then fZ h (frst l+(l.length:Nat)) (out++l.drop (next-frst l).toNat) else fZ h next out
theorem z8 (h:List (List Rec)) (i:Nat) (hi:i<h.length) (next:Int) (out:List Rec):fZ (h.drop i) next out=if next<frst h[i] then(out,h.drop i) else if next<frst h[i]+(h[i].length:Nat) then fZ (h.drop (i+1)) (frst h[i]+(h[i].length:Nat)) (out++h[i].drop (next-frst h[i]).toNat) else fZ (h.drop (i+1)) next out:=by
 rw[zD hi];rfl
theorem Cq (h:List (List Rec)) (hh:okH h) (next:Int) (hn:0<=next∧next<=1099511627776):call 62 [vl (h.map hE),vi next] []=some (.tup [(false,[.d (.l ((fZ h next []).1.map Rec.enc))]),(false,[.d (.l ((fZ h next []).2.map hE))])],[]):=by
 have hl:=hh.len;obtain⟨Z,hZ⟩:∃ Z,Z=fZ h next []:=⟨_,rfl⟩;rw[<- hZ];apply ah S7 rfl;(simp(disch:=first|decide|omega|(intros;exact aj rfl rfl)|simp only[aa]) only[aF,Qs,zM,go_sem,seval,ak])
 refine aB (m:=0) (σ:=Nat × Int × List Rec) (fun t=>h.length-t.1) (fun t=>t.1<=h.length∧(0<=t.2.1∧t.2.1<=1099511627776+100)∧t.2.2.length<=100*t.1∧Z=fZ (h.drop t.1) t.2.1 t.2.2) (fun t=>[vl (h.map hE),vi t.2.1,V.one (.sl 0 3 0 t.2.2.length),vl (h.map hE),vi h.length,vi t.1]) (fun t=>[.arr 3 (t.2.2.map Rec.enc) 0])
  (fun _=>((.tup [(false,[.d (.l (Z.1.map Rec.enc))]),(false,[.d (.l (Z.2.map hE))])],[]):V × Hp)) ?_ (0,next,[]) ⟨zP _,by simp only[];omega,by simp,by simpa using hZ⟩ _ _ ?_
 rotate_left
 ·exact cm
 rintro⟨i,nx,out⟩ ⟨h1,h2,h3,h4⟩ R hR;simp only at h1 h2 h3 h4 ⊢;have hol:(out.map Rec.enc).length=out.length:=by simp
 have hot:List.take out.length (out.map Rec.enc)=out.map Rec.enc:=zL (by simp)
 by_cases c:i<h.length
 ·have hc:(i:Int)<(h.length:Int):=by omega
  have g1:(h.map hE)[i]?=some [.l (h[i].map Rec.enc)]:=by rw[zG,zE c];rfl
  rw[z8 h i c] at h4;have hob:=hh.all _ (zN c);have hbl:=hob.len;have hba:=hob.at_;obtain⟨r,g2⟩:=vK hob.len.1;have hpos:0<(h[i].map Rec.enc).length:=by simp;omega
  have hokr:aR 1 (h.map hE)=true:=aV Gt _;have hdr:List.drop i (h.map hE)=(h.drop i).map hE:=by rw[List.map_drop]
  have hdl:((h.drop i).map hE).length<=1000:=by simp;omega
  have hlm:(h[i].map Rec.enc).length=h[i].length:=by simp
  by_cases c1:nx<frst h[i]
  ·rw[if_pos c1] at h4;clear hR;rw[h4];generalize h[i]=l at *;(simp(disch:=first|decide|omega|(intros;exact aj rfl rfl)|simp only[aa]) only[aF,yx,zT hc,g1,hpos,g2,zT c1,hokr,hdr,hol,hot,zM,go_sem,seval,ak])
   try simp[trim]
  ·rw[if_neg c1] at h4;by_cases c2:nx<frst h[i]+(h[i].length:Nat)
   ·rw[if_pos c2] at h4;have hK:=hR (i+1,frst h[i]+(h[i].length:Nat),out++h[i].drop (nx-frst h[i]).toNat) (by simp only[];omega) ⟨by simp only[];omega,by simp only[];omega,by simp only[zA,zH];omega,h4⟩
    clear hR;have hdrop:List.drop (nx-frst h[i]).toNat (h[i].map Rec.enc)=(h[i].drop (nx-frst h[i]).toNat).map Rec.enc:=by rw[List.map_drop]
    simp only[List.map_append,zA] at hK;have hdl2:(h[i].drop (nx-frst h[i]).toNat).length<=100:=by simp;omega
    have hok3:aR 3 (h[i].map Rec.enc)=true:=aV Rec.len _;have hok4:aR 3 ((h[i].drop (nx-frst h[i]).toNat).map Rec.enc)=true:=aV Rec.len _;have hs0:0<=nx-frst h[i]:=by omega
    have hs1:nx-frst h[i]<=(h[i].length:Nat):=by omega
    generalize h[i].drop (nx-frst h[i]).toNat=y at *;generalize h[i]=l at *;(simp(disch:=first|decide|omega|(intros;exact aj rfl rfl)|simp only[aa]) only[aF,yx,zT hc,g1,hpos,g2,zF c1,zT c2,hlm,hok3,hdrop,hol,hok4,zM,go_sem,seval,ak])
    exact hK _ _ cm
   ·rw[if_neg c2] at h4;have hK:=hR (i+1,nx,out) (by simp only[];omega) ⟨by simp only[];omega,by simp only[];omega,by simp only[];omega,h4⟩
    clear hR;generalize h[i]=l at *;(simp(disch:=first|decide|omega|(intros;exact aj rfl rfl)|simp only[aa]) only[aF,yx,zT hc,g1,hpos,g2,zF c1,zF c2,hlm,zM,go_sem,seval,ak])
    exact hK _ _ cm
 ·have hc:¬ (i:Int)<(h.length:Int):=by omega
  rw[zC (by omega)] at h4
  rw[h4];simp only[fZ];(simp(disch:=first|decide|omega|(intros;exact aj rfl rfl)|simp only[aa]) only[aF,yx,Qs,zF hc,hol,hot,go_sem,seval,ak])
  try simp[trim]
theorem Hz (d:Dsk) (hd:d.ok) (n:Txt):call 110 [.agg d.l,.one (.p 0 0)] [.cells [zS n]]=some (aP (am d (bh d.files n)),[.cells [zS n]]):=by
 have h:=ji d hd n;generalize am d (bh d.files n)=q at *;obtain⟨⟨fl,cp,ar,lf,dn⟩,qe⟩:=q;obtain⟨fl0,cp0,ar0,lf0,dn0⟩:=d;simp only[aP,Dsk.l] at h ⊢;apply ah Qx rfl;(simp(disch:=first|decide|omega|(intros;exact aj rfl rfl)|simp only[aa]) only[aF,Nu,h,go_sem,seval,ak])
 try simp[zR]
theorem Gi (d:Dsk) (hd:d.ok) (n:Txt):call 114 [.agg d.l,.one (.p 0 0)] [.cells [zS n]]=some (aP (am d (cq d.files n)),[.cells [zS n]]):=by
 have h:=mI d hd n;generalize am d (cq d.files n)=q at *;obtain⟨⟨fl,cp,ar,lf,dn⟩,qe⟩:=q;obtain⟨fl0,cp0,ar0,lf0,dn0⟩:=d;simp only[aP,Dsk.l] at h ⊢;apply ah Pt rfl;(simp(disch:=first|decide|omega|(intros;exact aj rfl rfl)|simp only[aa]) only[aF,NA,h,go_sem,seval,ak])
 try simp[zR]
theorem Ey (d:Dsk) (hd:d.ok) (n x:Txt) (hx:x.length<=1000000000000):call 113 [.agg d.l,.one (.p 0 0),.one (.p 1 0)] [.cells [zS n],.cells [zS x]]=some (aP (am d (bH d.files d.cap n x)),[.cells [zS n],.cells [zS x]]):=by
 have h:=jf d hd n x hx;generalize am d (bH d.files d.cap n x)=q at *;obtain⟨⟨fl,cp,ar,lf,dn⟩,qe⟩:=q;obtain⟨fl0,cp0,ar0,lf0,dn0⟩:=d;simp only[aP,Dsk.l] at h ⊢;apply ah PD rfl;(simp(disch:=first|decide|omega|(intros;exact aj rfl rfl)|simp only[aa]) only[aF,NU,h,go_sem,seval,ak])
 try simp[zR]
theorem FL {k u:Nat} (d:Dsk) (hd:okN k u d) (hk:k<=900000) (hu:u<=900000000000) (X:Sto) (hl:X.segs.length<=1000000) (hm:X.man.ok):call 115 [.agg d.l,.one (.p 0 0)] [.cells [.d (.l (X.disk.files.map Fil.enc)),zI X.disk.cap,zB X.disk.armed,zI X.disk.left,zB X.disk.down,zI X.ver,.cl (X.segs.map Seg.enc),zI X.next,zI X.sure,zI X.size,zW X.sum]]=some (aP (bR X.man (d,0)),[.cells [.d (.l (X.disk.files.map Fil.enc)),zI X.disk.cap,zB X.disk.armed,zI X.disk.left,zB X.disk.down,zI X.ver,.cl (X.segs.map Seg.enc),zI X.next,zI X.sure,zI X.size,zW X.sum]]):=by
 have q1:=qZ X hl;have q2:=sF d hd hk hu X.man hm;have hml:X.man.l=[zI X.ver,.d (.l ((X.segs.map Seg.base).map eI)),zI X.size,zW X.sum]:=rfl;generalize bR X.man (d,0)=q at *;obtain⟨⟨fl,cp,ar,lf,dn⟩,qe⟩:=q;obtain⟨fl0,cp0,ar0,lf0,dn0⟩:=d;have hX:X.l=[.d (.l (X.disk.files.map Fil.enc)),zI X.disk.cap,zB X.disk.armed,zI X.disk.left,zB X.disk.down,zI X.ver,.d (.l (X.segs.map Seg.enc)),zI X.next,zI X.sure,zI X.size,zW X.sum]:=rfl;rw[hX,hml] at q1;rw[hml] at q2;simp only[aP,Dsk.l] at q2 ⊢;apply ah Qu rfl;(simp(disch:=first|decide|omega|(intros;exact aj rfl rfl)|simp only[aa]) only[aF,Ng,q1,q2,go_sem,seval,ak,bI,A.kind,A.xs,aD,A.isN])
 try simp[zR]
theorem Fd (n:Txt) (d:Dsk) (e:Int):cN n (d,e)=if e=9 then(if(am d (bO d.files n)).2=0 then((am d (bO d.files n)).1,9) else am d (bO d.files n)) else(d,e):=by
 have e1:dw n (d,0)=am d (bO d.files n):=bn _ _;unfold cN;simp only[e1];split <;> simp_all
theorem DB {k u:Nat} (d:Dsk) (hd:okN k u d) (hk:k<=800000) (hu:u<=800000000000) (n x:Txt) (hx:x.length<=1000000):call 152 [.agg d.l,.one (.p 0 0),.one (.p 3 0)] [.cells [.f 113 [1,2]],.cells [zS n],.cells [zS x],.cells [zS n]]=some (aP (cN n (fD n x (d,0))),[.cells [.f 113 [1,2]],.cells [zS n],.cells [zS x],.cells [zS n]]):=by
 have h0:=Ey d (hd.ok (by omega) (by omega)) n x (by omega)
 have kk:=iZ (s:=(d,0)) hd n x;have ea:fD n x (d,0)=am d (bH d.files d.cap n x):=bn _ _;rw[ea] at kk ⊢;generalize am d (bH d.files d.cap n x)=q at *;obtain⟨q1,qe⟩:=q;have h1:=fK q1 (kk.ok (by omega) (by omega)) n
 rw[Fd];generalize am q1 (bO q1.files n)=r at *;obtain⟨⟨rfl_,rcp,rar,rlf,rdn⟩,re⟩:=r;obtain⟨fl,cp,ar,lf,dn⟩:=q1;obtain⟨fl0,cp0,ar0,lf0,dn0⟩:=d;simp only[aP,Dsk.l] at h0 h1 ⊢;have h2:∀ a b c e,au call 113 [.agg [.d (.l (fl0.map Fil.enc)),zI cp0,zB ar0,zI lf0,zB dn0],.one (.p 1 0),.one (.p 2 0)] [a,.cells [zS n],.cells [zS x],b,c,e]=some (.tup [(true,[.d (.l (fl.map Fil.enc)),zI cp,zB ar,zI lf,zB dn]),(false,[zI qe])],[a,.cells [zS n],.cells [zS x],b,c,e]):=fun a b c e =>
  aE (ids:=[1,2]) rfl rfl rfl h0 rfl
 apply ah Nv rfl;by_cases c:qe=9
 ·subst c;rw[if_pos rfl];by_cases c2:re=0
  ·subst c2;rw[if_pos rfl];(simp(disch:=first|decide|omega|(intros;exact aj rfl rfl)|simp only[aa]) only[aF,AR,h2,h1,go_sem,seval,ak])
   try simp[zR]
  ·rw[if_neg c2];(simp(disch:=first|decide|omega|(intros;exact aj rfl rfl)|simp only[aa]) only[aF,AR,h2,h1,c2,go_sem,seval,ak])
   try simp[zR,c2]
 ·rw[if_neg c];(simp(disch:=first|decide|omega|(intros;exact aj rfl rfl)|simp only[aa]) only[aF,AR,h2,h1,c,go_sem,seval,ak])
  try simp[zR,c]
theorem Dh {k u:Nat} (d:Dsk) (hd:okN k u d) (hk:k<=800000) (hu:u<=800000000000) (n:Txt) (X:Sto) (hl:X.segs.length<=1000000) (hm:X.man.ok):call 152 [.agg d.l,.one (.p 0 0),.one (.p 2 0)] [.cells [.f 115 [1]],.cells [.d (.l (X.disk.files.map Fil.enc)),zI X.disk.cap,zB X.disk.armed,zI X.disk.left,zB X.disk.down,zI X.ver,.cl (X.segs.map Seg.enc),zI X.next,zI X.sure,zI X.size,zW X.sum],.cells [zS n]]=some (aP (cN n (bR X.man (d,0))),[.cells [.f 115 [1]],.cells [.d (.l (X.disk.files.map Fil.enc)),zI X.disk.cap,zB X.disk.armed,zI X.disk.left,zB X.disk.down,zI X.ver,.cl (X.segs.map Seg.enc),zI X.next,zI X.sure,zI X.size,zW X.sum],.cells [zS n]]):=by
 have h0:=FL d hd (by omega) (by omega) X hl hm
 have kk:=gS (s:=(d,0)) hd X.man;generalize bR X.man (d,0)=q at *;obtain⟨q1,qe⟩:=q;have h1:=fK q1 (kk.ok (by omega) (by omega)) n
 rw[Fd];generalize am q1 (bO q1.files n)=r at *;obtain⟨⟨rfl_,rcp,rar,rlf,rdn⟩,re⟩:=r;obtain⟨fl,cp,ar,lf,dn⟩:=q1;obtain⟨fl0,cp0,ar0,lf0,dn0⟩:=d;simp only[aP,Dsk.l] at h0 h1 ⊢;have h2:∀ a b c e,au call 115 [.agg [.d (.l (fl0.map Fil.enc)),zI cp0,zB ar0,zI lf0,zB dn0],.one (.p 1 0)] [a,.cells [.d (.l (X.disk.files.map Fil.enc)),zI X.disk.cap,zB X.disk.armed,zI X.disk.left,zB X.disk.down,zI X.ver,.cl (X.segs.map Seg.enc),zI X.next,zI X.sure,zI X.size,zW X.sum],b,c,e]=some (.tup [(true,[.d (.l (fl.map Fil.enc)),zI cp,zB ar,zI lf,zB dn]),(false,[zI qe])],[a,.cells [.d (.l (X.disk.files.map Fil.enc)),zI X.disk.cap,zB X.disk.armed,zI X.disk.left,zB X.disk.down,zI X.ver,.cl (X.segs.map Seg.enc),zI X.next,zI X.sure,zI X.size,zW X.sum],b,c,e]):=fun a b c e =>
  aE (ids:=[1]) rfl rfl rfl h0 rfl
 apply ah Nv rfl;by_cases c:qe=9
 ·subst c;rw[if_pos rfl];by_cases c2:re=0
  ·subst c2;rw[if_pos rfl];(simp(disch:=first|decide|omega|(intros;exact aj rfl rfl)|simp only[aa]) only[aF,AR,h2,h1,go_sem,seval,ak])
   try simp[zR]
  ·rw[if_neg c2];(simp(disch:=first|decide|omega|(intros;exact aj rfl rfl)|simp only[aa]) only[aF,AR,h2,h1,c2,go_sem,seval,ak])
   try simp[zR,c2]
 ·rw[if_neg c];(simp(disch:=first|decide|omega|(intros;exact aj rfl rfl)|simp only[aa]) only[aF,AR,h2,h1,c,go_sem,seval,ak])
  try simp[zR,c]
theorem yK (d:Dsk) (hd:d.ok) (n:Txt):call 154 [.agg d.l,.one (.ip [.s n])] []=some (aP (am d (bO d.files n)),[]):=by
 have h:=fK d hd n;generalize am d (bO d.files n)=q at *;obtain⟨⟨fl,cp,ar,lf,dn⟩,qe⟩:=q;obtain⟨fl0,cp0,ar0,lf0,dn0⟩:=d;simp only[aP,Dsk.l] at h ⊢;apply ah P3 rfl;(simp(disch:=first|decide|omega|(intros;exact aj rfl rfl)|simp only[aa]) only[aF,NN,h,go_sem,seval,ak])
 try simp[trim]
theorem ua (n:Txt):call 118 [vs n] []=some (.one (.f 154 [0]),[.cells [zS n]]):=by
 apply ah Pw rfl;have htr:∀ H:Hp,trim 0 (.one (.f 154 [0])) H=(.one (.f 154 [0]),H):=fun H=>by simp[trim,V.refs,L.refs]
 (simp(disch:=first|decide|omega|(intros;exact aj rfl rfl)|simp only[aa]) only[aF,OD,↓htr,go_sem,seval,ak])
end Go.Proofs.YtgoifbjgmgbihaaGreat
