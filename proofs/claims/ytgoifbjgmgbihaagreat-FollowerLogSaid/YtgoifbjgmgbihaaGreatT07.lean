import Derived.Test.YtgoifbjgmgbihaaGreatT06
import Derived.Test.YtgoifbjgmgbihaaGreatT02
import Derived.Test.YtgoifbjgmgbihaaGreatT05
import Derived.Test.YtgoifbjgmgbihaaGreatT03
set_option linter.unusedSimpArgs false
set_option linter.unusedVariables false
set_option maxRecDepth 20000
set_option maxHeartbeats 16000000
namespace Go.Proofs.YtgoifbjgmgbihaaGreat
open Go.Vi
abbrev LR:=(Dsk × Int) × Nat × Nat × Nat
def u4 (n g:Txt) (m:Man) (d:Dsk):LR:=if(bT m (d,0)).2=9 then(cZ [g,n] (bT m (d,0)).1,0,1,2) else(bT m (d,0),0,1,0)
def u3 (n g:Txt) (m:Man) (d:Dsk):LR:=if(aj d (bm d.files g)).2≠0 then(aj d (bm d.files g),0,0,0) else u4 n g m (aj d (bm d.files g)).1
def u2 (n g:Txt) (m:Man) (d:Dsk):LR:=if(aj d (ct d.files n)).2≠0 then(aj d (ct d.files n),0,0,0) else u3 n g m (aj d (ct d.files n)).1
def u1 (n g x:Txt) (m:Man) (d:Dsk):LR:=if(aj d (bK d.files d.cap n x)).2=9 then(cZ [n] (aj d (bK d.files d.cap n x)).1,1,0,0) else if(aj d (bK d.files d.cap n x)).2≠0 then(aj d (bK d.files d.cap n x),0,0,0) else u2 n g m (aj d (bK d.files d.cap n x)).1
def u0 (n g x:Txt) (m:Man) (d:Dsk):LR:=if(aj d (bm d.files n)).2≠0 then(aj d (bm d.files n),0,0,0) else u1 n g x m (aj d (bm d.files n)).1
def uT (n g x:Txt) (m:Man):Nat->Dsk->LR
 | 0,d=>u0 n g x m d
 | 1,d=>u1 n g x m d
 | 2,d=>u2 n g m d
 | 3,d=>u3 n g m d
 | 4,d=>u4 n g m d
 | _,d=>((d,0),0,1,0)
def HI (n g x:Txt) (ver at_:Int) (f1 f2 f3:Nat):Hp:=[.cells [.f 123 [1],.ns,.f 124 [1,2],.sl 3 1 0 1,.f 125 [1],.ns,.f 126 [4],.ns,.f 127 [5],.sl 7 1 0 2],.cells [zS n],.cells [zS x],.arr 1 [[.s n]] f1,.cells [zS g],.cells [.ns,zI 0,zB false,zI 0,zB false,zI ver,.sl 6 3 0 1,zI at_,zI at_,zI x.length,zW (cB x)],.arr 3 [[.i .i64 at_,.i .i64 0,.i .i64 0]] f2,.arr 1 [[.s g],[.s n]] f3]
theorem EK {k u:Nat} (d:Dsk) (hd:okN k u d) (hk:k<=800000) (hu:u<=800000000000) (n g x:Txt) (hx:x.length<=20000) (ver at_:Int) :
  call 122 [.agg d.l,.one (.sp 0 5)] (HI n g x ver at_ 0 0 0)=some (aP (u0 n g x (fp ver at_ x).man d).1,HI n g x ver at_ (u0 n g x (fp ver at_ x).man d).2.1 (u0 n g x (fp ver at_ x).man d).2.2.1 (u0 n g x (fp ver at_ x).man d).2.2.2):=by
 obtain⟨Z,hZ⟩:∃ Z,Z=uT n g x (fp ver at_ x).man 0 d:=⟨_,rfl⟩;have hZ0:u0 n g x (fp ver at_ x).man d=Z:=hZ.symm;rw[hZ0];clear hZ0;obtain⟨⟨⟨zfl,zcp,zar,zlf,zdn⟩,ze⟩,F1,F2,F3⟩:=Z;simp only[aP,Dsk.l,HI];apply ae PX rfl;obtain⟨dfl,dcp,dar,dlf,ddn⟩:=d;refine bC ?_ Gr.eq_1;refine ax (m:=8) (σ:=Nat × Dsk) (fun t=>5-t.1) (fun t=>t.1<=5∧okN (k+2*t.1) (u+30000*t.1) t.2∧uT n g x (fp ver at_ x).man t.1 t.2=((⟨zfl,zcp,zar,zlf,zdn⟩,ze),F1,F2,F3)) (fun t=>[V.one (.p 8 0),V.one (.p 9 0),V.one (.sp 0 5),vi 5,vi t.1])
  (fun t=>[.cells [.f 123 [1],.ns,.f 124 [1,2],.sl 3 1 0 1,.f 125 [1],.ns,.f 126 [4],.ns,.f 127 [5],.sl 7 1 0 2],.cells [zS n],.cells [zS x],.arr 1 [[.s n]] 0,.cells [zS g],.cells [.ns,zI 0,zB false,zI 0,zB false,zI ver,.sl 6 3 0 1,zI at_,zI at_,zI x.length,zW (cB x)],.arr 3 [[.i .i64 at_,.i .i64 0,.i .i64 0]] (if t.1=5 then 1 else 0),.arr 1 [[.s g],[.s n]] 0,.cells [.d (.l (t.2.files.map Fil.enc)),zI t.2.cap,zB t.2.armed,zI t.2.left,zB t.2.down],.cells [.ns,zI 0,zB false,zI 0,zB false]])
  (fun _=>(V.tup [(true,[.d (.l (zfl.map Fil.enc)),zI zcp,zB zar,zI zlf,zB zdn]),(false,[zI ze])],([.cells [.f 123 [1],.ns,.f 124 [1,2],.sl 3 1 0 1,.f 125 [1],.ns,.f 126 [4],.ns,.f 127 [5],.sl 7 1 0 2],.cells [zS n],.cells [zS x],.arr 1 [[.s n]] F1,.cells [zS g],.cells [.ns,zI 0,zB false,zI 0,zB false,zI ver,.sl 6 3 0 1,zI at_,zI at_,zI x.length,zW (cB x)],.arr 3 [[.i .i64 at_,.i .i64 0,.i .i64 0]] F2,.arr 1 [[.s g],[.s n]] F3]:Hp))) ?_ (0,⟨dfl,dcp,dar,dlf,ddn⟩) ⟨zP _,hd,hZ.symm⟩ _ _ ?_
 rotate_left
 ·exact bO
 rintro⟨i,⟨fl,cp,ar,lf,dn⟩⟩ ⟨h1,h2,h3⟩ R hR;simp only at h1 h2 h3 ⊢;have hok:=h2.ok (by omega) (by omega)
 rcases(by omega:i=0∨i=1∨i=2∨i=3∨i=4∨i=5) with rfl|rfl|rfl|rfl|rfl|rfl
 ·have q1:=I1 ⟨fl,cp,ar,lf,dn⟩ hok n;have kk:=eA (s:=(⟨fl,cp,ar,lf,dn⟩,0)) h2 n;rw[show bL n (⟨fl,cp,ar,lf,dn⟩,0)=aj ⟨fl,cp,ar,lf,dn⟩ (bm fl n) from bv _ _] at kk
  simp only[uT,u0] at h3;simp only at q1;generalize aj ⟨fl,cp,ar,lf,dn⟩ (bm fl n)=q at *;have hb:=iU q.1 kk (by omega) (by omega) [] (by simp)
  have kq:=kk.up (k':=k+2*(0+1)) (u':=u+30000*(0+1)) (by omega) (by omega)
  generalize hbt:cZ [] q.1=bt at *;obtain⟨⟨qfl,qcp,qar,qlf,qdn⟩,qe⟩:=q;obtain⟨⟨bfl,bcp,bar,blf,bdn⟩,be⟩:=bt;simp only[aP,Dsk.l,List.map_cons,List.map_nil,eS] at q1 hb h3;have g1:ak call 123 [.agg [.d (.l (fl.map Fil.enc)),zI cp,zB ar,zI lf,zB dn],.one (.p 1 0)] [.cells [.f 123 [1],.ns,.f 124 [1,2],.sl 3 1 0 1,.f 125 [1],.ns,.f 126 [4],.ns,.f 127 [5],.sl 7 1 0 2],.cells [zS n],.cells [zS x],.arr 1 [[.s n]] 0,.cells [zS g],.cells [.ns,zI 0,zB false,zI 0,zB false,zI ver,.sl 6 3 0 1,zI at_,zI at_,zI x.length,zW (cB x)],.arr 3 [[.i .i64 at_,.i .i64 0,.i .i64 0]] 0,.arr 1 [[.s g],[.s n]] 0,.cells [.d (.l (fl.map Fil.enc)),zI cp,zB ar,zI lf,zB dn],.cells [.ns,zI 0,zB false,zI 0,zB false],.cells [.f 123 [1],.ns]]=some (V.tup [(true,[.d (.l (qfl.map Fil.enc)),zI qcp,zB qar,zI qlf,zB qdn]),(false,[zI qe])],[.cells [.f 123 [1],.ns,.f 124 [1,2],.sl 3 1 0 1,.f 125 [1],.ns,.f 126 [4],.ns,.f 127 [5],.sl 7 1 0 2],.cells [zS n],.cells [zS x],.arr 1 [[.s n]] 0,.cells [zS g],.cells [.ns,zI 0,zB false,zI 0,zB false,zI ver,.sl 6 3 0 1,zI at_,zI at_,zI x.length,zW (cB x)],.arr 3 [[.i .i64 at_,.i .i64 0,.i .i64 0]] 0,.arr 1 [[.s g],[.s n]] 0,.cells [.d (.l (fl.map Fil.enc)),zI cp,zB ar,zI lf,zB dn],.cells [.ns,zI 0,zB false,zI 0,zB false],.cells [.f 123 [1],.ns]]):=aD (ids:=[1]) rfl rfl rfl q1 rfl;by_cases c2:qe=0
  ·subst c2;rw[if_neg (by simp)] at h3
   have hR':=hR (0+1,⟨qfl,qcp,qar,qlf,qdn⟩) (by simp only[];omega) ⟨by simp only[];omega,kq,h3⟩
   refine dm ?_ dy.eq_1 g1;exact hR' _ _ bO
  ·rw[if_pos c2] at h3;cases h3;have hbt2:(⟨⟨bfl,bcp,bar,blf,bdn⟩,be⟩:Dsk × Int)=(⟨zfl,zcp,zar,zlf,zdn⟩,9):=hbt.symm;cases hbt2;by_cases c9:ze=9
   ·subst c9;refine dm ?_ dy.eq_1 g1 hb;try simp[zR]
   ·refine dm ?_ dy.eq_1 g1 c2 c9;try simp[zR]
 ·have q1:=Ke ⟨fl,cp,ar,lf,dn⟩ hok n x (by omega)
  have kk:=iY (s:=(⟨fl,cp,ar,lf,dn⟩,0)) h2 n x;rw[show fO n x (⟨fl,cp,ar,lf,dn⟩,0)=aj ⟨fl,cp,ar,lf,dn⟩ (bK fl cp n x) from bv _ _] at kk
  simp only[uT,u1] at h3;simp only at q1;generalize aj ⟨fl,cp,ar,lf,dn⟩ (bK fl cp n x)=q at *;have hb:=iU q.1 kk (by omega) (by omega) [n] (by simp)
  have kq:=kk.up (k':=k+2*(1+1)) (u':=u+30000*(1+1)) (by omega) (by omega)
  generalize hbt:cZ [n] q.1=bt at *;obtain⟨⟨qfl,qcp,qar,qlf,qdn⟩,qe⟩:=q;obtain⟨⟨bfl,bcp,bar,blf,bdn⟩,be⟩:=bt;simp only[aP,Dsk.l,List.map_cons,List.map_nil,eS] at q1 hb h3;have g1:ak call 124 [.agg [.d (.l (fl.map Fil.enc)),zI cp,zB ar,zI lf,zB dn],.one (.p 1 0),.one (.p 2 0)] [.cells [.f 123 [1],.ns,.f 124 [1,2],.sl 3 1 0 1,.f 125 [1],.ns,.f 126 [4],.ns,.f 127 [5],.sl 7 1 0 2],.cells [zS n],.cells [zS x],.arr 1 [[.s n]] 0,.cells [zS g],.cells [.ns,zI 0,zB false,zI 0,zB false,zI ver,.sl 6 3 0 1,zI at_,zI at_,zI x.length,zW (cB x)],.arr 3 [[.i .i64 at_,.i .i64 0,.i .i64 0]] 0,.arr 1 [[.s g],[.s n]] 0,.cells [.d (.l (fl.map Fil.enc)),zI cp,zB ar,zI lf,zB dn],.cells [.ns,zI 0,zB false,zI 0,zB false],.cells [.f 124 [1,2],.sl 3 1 0 1]]=some (V.tup [(true,[.d (.l (qfl.map Fil.enc)),zI qcp,zB qar,zI qlf,zB qdn]),(false,[zI qe])],[.cells [.f 123 [1],.ns,.f 124 [1,2],.sl 3 1 0 1,.f 125 [1],.ns,.f 126 [4],.ns,.f 127 [5],.sl 7 1 0 2],.cells [zS n],.cells [zS x],.arr 1 [[.s n]] 0,.cells [zS g],.cells [.ns,zI 0,zB false,zI 0,zB false,zI ver,.sl 6 3 0 1,zI at_,zI at_,zI x.length,zW (cB x)],.arr 3 [[.i .i64 at_,.i .i64 0,.i .i64 0]] 0,.arr 1 [[.s g],[.s n]] 0,.cells [.d (.l (fl.map Fil.enc)),zI cp,zB ar,zI lf,zB dn],.cells [.ns,zI 0,zB false,zI 0,zB false],.cells [.f 124 [1,2],.sl 3 1 0 1]]):=aD (ids:=[1,2]) rfl rfl rfl q1 rfl;by_cases c2:qe=0
  ·subst c2;rw[if_neg (by decide),if_neg (by simp)] at h3
   have hR':=hR (1+1,⟨qfl,qcp,qar,qlf,qdn⟩) (by simp only[];omega) ⟨by simp only[];omega,kq,h3⟩
   refine dm ?_ dy.eq_1 g1;exact hR' _ _ bO
  ·by_cases c9:qe=9
   ·subst c9;rw[if_pos rfl] at h3;cases h3;refine dm ?_ dy.eq_1 g1 hb;try simp[zR]
   ·rw[if_neg c9,if_pos c2] at h3;cases h3;refine dm ?_ dy.eq_1 g1 c2 c9;try simp[zR]
 ·have q1:=J0 ⟨fl,cp,ar,lf,dn⟩ hok n;have kk:=lu (s:=(⟨fl,cp,ar,lf,dn⟩,0)) h2 n;rw[show ga n (⟨fl,cp,ar,lf,dn⟩,0)=aj ⟨fl,cp,ar,lf,dn⟩ (ct fl n) from bv _ _] at kk
  simp only[uT,u2] at h3;simp only at q1;generalize aj ⟨fl,cp,ar,lf,dn⟩ (ct fl n)=q at *;have hb:=iU q.1 kk (by omega) (by omega) [] (by simp)
  have kq:=kk.up (k':=k+2*(2+1)) (u':=u+30000*(2+1)) (by omega) (by omega)
  generalize hbt:cZ [] q.1=bt at *;obtain⟨⟨qfl,qcp,qar,qlf,qdn⟩,qe⟩:=q;obtain⟨⟨bfl,bcp,bar,blf,bdn⟩,be⟩:=bt;simp only[aP,Dsk.l,List.map_cons,List.map_nil,eS] at q1 hb h3;have g1:ak call 125 [.agg [.d (.l (fl.map Fil.enc)),zI cp,zB ar,zI lf,zB dn],.one (.p 1 0)] [.cells [.f 123 [1],.ns,.f 124 [1,2],.sl 3 1 0 1,.f 125 [1],.ns,.f 126 [4],.ns,.f 127 [5],.sl 7 1 0 2],.cells [zS n],.cells [zS x],.arr 1 [[.s n]] 0,.cells [zS g],.cells [.ns,zI 0,zB false,zI 0,zB false,zI ver,.sl 6 3 0 1,zI at_,zI at_,zI x.length,zW (cB x)],.arr 3 [[.i .i64 at_,.i .i64 0,.i .i64 0]] 0,.arr 1 [[.s g],[.s n]] 0,.cells [.d (.l (fl.map Fil.enc)),zI cp,zB ar,zI lf,zB dn],.cells [.ns,zI 0,zB false,zI 0,zB false],.cells [.f 125 [1],.ns]]=some (V.tup [(true,[.d (.l (qfl.map Fil.enc)),zI qcp,zB qar,zI qlf,zB qdn]),(false,[zI qe])],[.cells [.f 123 [1],.ns,.f 124 [1,2],.sl 3 1 0 1,.f 125 [1],.ns,.f 126 [4],.ns,.f 127 [5],.sl 7 1 0 2],.cells [zS n],.cells [zS x],.arr 1 [[.s n]] 0,.cells [zS g],.cells [.ns,zI 0,zB false,zI 0,zB false,zI ver,.sl 6 3 0 1,zI at_,zI at_,zI x.length,zW (cB x)],.arr 3 [[.i .i64 at_,.i .i64 0,.i .i64 0]] 0,.arr 1 [[.s g],[.s n]] 0,.cells [.d (.l (fl.map Fil.enc)),zI cp,zB ar,zI lf,zB dn],.cells [.ns,zI 0,zB false,zI 0,zB false],.cells [.f 125 [1],.ns]]):=aD (ids:=[1]) rfl rfl rfl q1 rfl;by_cases c2:qe=0
  ·subst c2;rw[if_neg (by simp)] at h3
   have hR':=hR (2+1,⟨qfl,qcp,qar,qlf,qdn⟩) (by simp only[];omega) ⟨by simp only[];omega,kq,h3⟩
   refine dm ?_ dy.eq_1 g1;exact hR' _ _ bO
  ·rw[if_pos c2] at h3;cases h3;have hbt2:(⟨⟨bfl,bcp,bar,blf,bdn⟩,be⟩:Dsk × Int)=(⟨zfl,zcp,zar,zlf,zdn⟩,9):=hbt.symm;cases hbt2;by_cases c9:ze=9
   ·subst c9;refine dm ?_ dy.eq_1 g1 hb;try simp[zR]
   ·refine dm ?_ dy.eq_1 g1 c2 c9;try simp[zR]
 ·have q1:=I2 ⟨fl,cp,ar,lf,dn⟩ hok g;have kk:=eA (s:=(⟨fl,cp,ar,lf,dn⟩,0)) h2 g;rw[show bL g (⟨fl,cp,ar,lf,dn⟩,0)=aj ⟨fl,cp,ar,lf,dn⟩ (bm fl g) from bv _ _] at kk
  simp only[uT,u3] at h3;simp only at q1;generalize aj ⟨fl,cp,ar,lf,dn⟩ (bm fl g)=q at *;have hb:=iU q.1 kk (by omega) (by omega) [] (by simp)
  have kq:=kk.up (k':=k+2*(3+1)) (u':=u+30000*(3+1)) (by omega) (by omega)
  generalize hbt:cZ [] q.1=bt at *;obtain⟨⟨qfl,qcp,qar,qlf,qdn⟩,qe⟩:=q;obtain⟨⟨bfl,bcp,bar,blf,bdn⟩,be⟩:=bt;simp only[aP,Dsk.l,List.map_cons,List.map_nil,eS] at q1 hb h3;have g1:ak call 126 [.agg [.d (.l (fl.map Fil.enc)),zI cp,zB ar,zI lf,zB dn],.one (.p 4 0)] [.cells [.f 123 [1],.ns,.f 124 [1,2],.sl 3 1 0 1,.f 125 [1],.ns,.f 126 [4],.ns,.f 127 [5],.sl 7 1 0 2],.cells [zS n],.cells [zS x],.arr 1 [[.s n]] 0,.cells [zS g],.cells [.ns,zI 0,zB false,zI 0,zB false,zI ver,.sl 6 3 0 1,zI at_,zI at_,zI x.length,zW (cB x)],.arr 3 [[.i .i64 at_,.i .i64 0,.i .i64 0]] 0,.arr 1 [[.s g],[.s n]] 0,.cells [.d (.l (fl.map Fil.enc)),zI cp,zB ar,zI lf,zB dn],.cells [.ns,zI 0,zB false,zI 0,zB false],.cells [.f 126 [4],.ns]]=some (V.tup [(true,[.d (.l (qfl.map Fil.enc)),zI qcp,zB qar,zI qlf,zB qdn]),(false,[zI qe])],[.cells [.f 123 [1],.ns,.f 124 [1,2],.sl 3 1 0 1,.f 125 [1],.ns,.f 126 [4],.ns,.f 127 [5],.sl 7 1 0 2],.cells [zS n],.cells [zS x],.arr 1 [[.s n]] 0,.cells [zS g],.cells [.ns,zI 0,zB false,zI 0,zB false,zI ver,.sl 6 3 0 1,zI at_,zI at_,zI x.length,zW (cB x)],.arr 3 [[.i .i64 at_,.i .i64 0,.i .i64 0]] 0,.arr 1 [[.s g],[.s n]] 0,.cells [.d (.l (fl.map Fil.enc)),zI cp,zB ar,zI lf,zB dn],.cells [.ns,zI 0,zB false,zI 0,zB false],.cells [.f 126 [4],.ns]]):=aD (ids:=[4]) rfl rfl rfl q1 rfl;by_cases c2:qe=0
  ·subst c2;rw[if_neg (by simp)] at h3
   have hR':=hR (3+1,⟨qfl,qcp,qar,qlf,qdn⟩) (by simp only[];omega) ⟨by simp only[];omega,kq,h3⟩
   refine dm ?_ dy.eq_1 g1;exact hR' _ _ bO
  ·rw[if_pos c2] at h3;cases h3;have hbt2:(⟨⟨bfl,bcp,bar,blf,bdn⟩,be⟩:Dsk × Int)=(⟨zfl,zcp,zar,zlf,zdn⟩,9):=hbt.symm;cases hbt2;by_cases c9:ze=9
   ·subst c9;refine dm ?_ dy.eq_1 g1 hb;try simp[zR]
   ·refine dm ?_ dy.eq_1 g1 c2 c9;try simp[zR]
 ·have q1:=Ja ⟨fl,cp,ar,lf,dn⟩ h2 (by omega) (by omega) ver at_ x 0 (by decide)
  have kk:=ii (s:=(⟨fl,cp,ar,lf,dn⟩,0)) h2 (fp ver at_ x).man;simp only[uT,u4] at h3;simp only[IW] at q1;generalize bT (fp ver at_ x).man (⟨fl,cp,ar,lf,dn⟩,0)=q at *;have hb:=iU q.1 kk (by omega) (by omega) [g,n] (by simp)
  have kq:=kk.up (k':=k+2*(4+1)) (u':=u+30000*(4+1)) (by omega) (by omega)
  generalize hbt:cZ [g,n] q.1=bt at *;obtain⟨⟨qfl,qcp,qar,qlf,qdn⟩,qe⟩:=q;obtain⟨⟨bfl,bcp,bar,blf,bdn⟩,be⟩:=bt;simp only[aP,Dsk.l,List.map_cons,List.map_nil,eS] at q1 hb h3;have g1:ak call 127 [.agg [.d (.l (fl.map Fil.enc)),zI cp,zB ar,zI lf,zB dn],.one (.p 5 0)] [.cells [.f 123 [1],.ns,.f 124 [1,2],.sl 3 1 0 1,.f 125 [1],.ns,.f 126 [4],.ns,.f 127 [5],.sl 7 1 0 2],.cells [zS n],.cells [zS x],.arr 1 [[.s n]] 0,.cells [zS g],.cells [.ns,zI 0,zB false,zI 0,zB false,zI ver,.sl 6 3 0 1,zI at_,zI at_,zI x.length,zW (cB x)],.arr 3 [[.i .i64 at_,.i .i64 0,.i .i64 0]] 0,.arr 1 [[.s g],[.s n]] 0,.cells [.d (.l (fl.map Fil.enc)),zI cp,zB ar,zI lf,zB dn],.cells [.ns,zI 0,zB false,zI 0,zB false],.cells [.f 127 [5],.sl 7 1 0 2]]=some (V.tup [(true,[.d (.l (qfl.map Fil.enc)),zI qcp,zB qar,zI qlf,zB qdn]),(false,[zI qe])],[.cells [.f 123 [1],.ns,.f 124 [1,2],.sl 3 1 0 1,.f 125 [1],.ns,.f 126 [4],.ns,.f 127 [5],.sl 7 1 0 2],.cells [zS n],.cells [zS x],.arr 1 [[.s n]] 0,.cells [zS g],.cells [.ns,zI 0,zB false,zI 0,zB false,zI ver,.sl 6 3 0 1,zI at_,zI at_,zI x.length,zW (cB x)],.arr 3 [[.i .i64 at_,.i .i64 0,.i .i64 0]] 1,.arr 1 [[.s g],[.s n]] 0,.cells [.d (.l (fl.map Fil.enc)),zI cp,zB ar,zI lf,zB dn],.cells [.ns,zI 0,zB false,zI 0,zB false],.cells [.f 127 [5],.sl 7 1 0 2]]):=aD (ids:=[5,6]) rfl rfl rfl q1 rfl;by_cases c9:qe=9
  ·subst c9;rw[if_pos rfl] at h3;cases h3;refine dm ?_ dy.eq_1 g1 hb;try simp[zR]
  ·rw[if_neg c9] at h3;by_cases c2:qe=0
   ·subst c2;have hR':=hR (4+1,⟨qfl,qcp,qar,qlf,qdn⟩) (by simp only[];omega) ⟨by simp only[];omega,kq,by simp only[uT];exact h3⟩
    refine dm ?_ dy.eq_1 g1;exact hR' _ _ bO
   ·cases h3;refine dm ?_ dy.eq_1 g1 c2 c9;try simp[zR]
 ·simp only[uT] at h3;cases h3;refine dm ?_ dy.eq_1 Gr.eq_1;try simp[zR]
theorem p9 (x:Txt) (hx:x.length<=1000000):call 64 [vl [[.s x]]] []=some (vk .u32 (cB x),[]):=by
 have h:=ym [x] (by simp) (fun s hs=>by rw[zV.1 hs];omega)
 have e:tS [x]=cr 0#32 x:=rfl;rw[e] at h;exact h
def fJ (s:Sto):List Txt:=s.segs.map (fun g=>fileN g.base)++(if 0<s.floor then[aH s.floor] else[])
def bf (s:Sto) (at_:Int) (x:Txt):Sto × Int :=
 if aR x=none∨at_<=s.next∨1099511627776<at_ then(s,1)
 else if(u0 (aH at_) (fileN at_) x (fp (s.ver+1) at_ x).man s.disk).1.2≠0 then({ s with disk:=(u0 (aH at_) (fileN at_) x (fp (s.ver+1) at_ x).man s.disk).1.1 },(u0 (aH at_) (fileN at_) x (fp (s.ver+1) at_ x).man s.disk).1.2)
 else({ fp (s.ver+1) at_ x with disk:=(zz (fJ s) (u0 (aH at_) (fileN at_) x (fp (s.ver+1) at_ x).man s.disk).1.1).1 },(zz (fJ s) (u0 (aH at_) (fileN at_) x (fp (s.ver+1) at_ x).man s.disk).1.1).2)
theorem Lm {k u:Nat} {d:Dsk} (h:okN k u d) {n g x:Txt} (hx:x.length<=20000) (hk:True) (hu:True) (m:Man):okN (k+3) (u+30000) (u0 n g x m d).1.1:=by
 have rM:∀ {k u:Nat} (l:List Txt) (d:Dsk),okN k u d->okN k u (cZ l d).1:=by
  intro k u l;induction l with
  | nil=>intro d h;exact h
  | cons a l ih =>
   intro d h;have:=dZ (s:=(d,0)) h a;rw[show dF a (d,0)=aj d (bP d.files a) from bv _ _] at this
   simp only[cZ];split
   ·exact this
   ·exact ih _ this
 have h1:=eA (s:=(d,0)) h n;rw[show bL n (d,0)=aj d (bm d.files n) from bv _ _] at h1
 unfold u0;split
 ·exact h1.up (by omega) (by omega)
 generalize (aj d (bm d.files n)).1=d1 at *;have h2:=iY (s:=(d1,0)) h1 n x;rw[show fO n x (d1,0)=aj d1 (bK d1.files d1.cap n x) from bv _ _] at h2
 unfold u1;split
 ·exact(rM _ _ h2).up (by omega) (by omega)
 split
 ·exact h2.up (by omega) (by omega)
 generalize (aj d1 (bK d1.files d1.cap n x)).1=d2 at *;have h3:=lu (s:=(d2,0)) h2 n;rw[show ga n (d2,0)=aj d2 (ct d2.files n) from bv _ _] at h3
 unfold u2;split
 ·exact h3.up (by omega) (by omega)
 generalize (aj d2 (ct d2.files n)).1=d3 at *;have h4:=eA (s:=(d3,0)) h3 g;rw[show bL g (d3,0)=aj d3 (bm d3.files g) from bv _ _] at h4
 unfold u3;split
 ·exact h4.up (by omega) (by omega)
 generalize (aj d3 (bm d3.files g)).1=d4 at *;have h5:=ii (s:=(d4,0)) h4 m;unfold u4;split
 ·exact(rM _ _ h5).up (by omega) (by omega)
 ·exact h5.up (by omega) (by omega)
theorem E0 {k u:Nat} (s:Sto) (h:okS k u s) (hk:k<=700000) (hu:u<=1000000) (at_:Int) (hat : -9223372036854775808<=at_∧at_<9223372036854775808) (x:Txt) (hx:x.length<=20000):call 88 [.agg s.l,vi at_,vs x] []=some (dG (bf s at_ x),[]):=by
 have q1:=tF x (by omega)
 unfold bf;have hver:=h.ver;by_cases c0:aR x=none∨at_<=s.next∨1099511627776<at_
 ·rw[if_pos c0];obtain⟨⟨fl,cp,ar,lf,dn⟩,ver,segs,next,sure,size,sum⟩:=s;simp only[Sto.l,Dsk.l,dG,List.cons_append,List.nil_append] at c0 ⊢;apply ae Tn rfl;cases hp:aR x with
  | none =>
   rw[hp] at q1;simp only[cQ] at q1;refine bC ?_ Lv.eq_1 q1;try simp[trim]
  | some l =>
   rw[hp] at q1;simp only[cQ] at q1;rw[hp] at c0;by_cases c1:at_<=next
   ·refine bC ?_ Lv.eq_1 q1 (zT c1);try simp[trim]
   ·have c2:1099511627776<at_:=by
     rcases c0 with h|h|h
     ·cases h
     ·exact absurd h c1
     ·exact h
    refine bC ?_ Lv.eq_1 q1 (zF c1) (zT c2);try simp[trim]
 ·rw[if_neg c0];have hp:aR x≠none:=fun h=>c0 (Or.inl h)
  have c1:¬ at_<=s.next:=fun h=>c0 (Or.inr (Or.inl h))
  have c2:¬ 1099511627776<at_:=fun h=>c0 (Or.inr (Or.inr h))
  obtain⟨l,hl⟩:=Option.ne_none_iff_exists'.1 hp;rw[hl] at q1;simp only[cQ] at q1;have hnx:=h.next;have q2:=lV (n:=at_) (by omega)
  have q3:=lD (n:=at_) (by omega)
  have q4:=p9 x (by omega)
  have hs:=pd x;have qf:call 119 [.agg s.l] []=some (vi s.floor,[]):=nY s;have hfo:=eC h;have qn:=lV hfo;have hseg:=h.seg;have hsl:=h.len.2;have r1:=EK s.disk h.dsk (by omega) (by omega) (aH at_) (fileN at_) x hx (s.ver+1) at_
  have kr:okN (k+3) (u+30000) (u0 (aH at_) (fileN at_) x (fp (s.ver+1) at_ x).man s.disk).1.1:=Lm h.dsk hx trivial trivial _;obtain⟨fl',hfl'⟩:∃ fl',fl'=s.floor:=⟨_,rfl⟩;have hnm:fJ s=s.segs.map (fun g=>fileN g.base)++(if 0<fl' then[aH fl'] else[]):=by rw[hfl'];rfl
  rw[hnm];rw[<- hfl'] at qf hfo qn;clear hnm hfl';generalize u0 (aH at_) (fileN at_) x (fp (s.ver+1) at_ x).man s.disk=r at *;obtain⟨⟨⟨efl,ecp,ear,elf,edn⟩,ee⟩,F1,F2,F3⟩:=r;obtain⟨⟨fl,cp,ar,lf,dn⟩,ver,segs,next,sure,size,sum⟩:=s;simp only[Sto.l,Dsk.l,dG,aP,List.cons_append,List.nil_append,HI] at c1 hver r1 qf kr hseg hsl ⊢;have g1:ak call 122 [.agg [.d (.l (fl.map Fil.enc)),zI cp,zB ar,zI lf,zB dn],.one (.sp 10 5)] [.cells [.d (.l (fl.map Fil.enc)),zI cp,zB ar,zI lf,zB dn,zI ver,.d (.l (segs.map Seg.enc)),zI next,zI sure,zI size,zW sum],.cells [zS x],.cells [.ns,zI 0,zB false,zI 0,zB false,zI 0,.ns,zI 0,zI 0,zI 0,zW 0],.arr 3 [[.i .i64 at_,.i .i64 0,.i .i64 0]] 0,.arr 1 [[.s x]] (max 0 1),.cells [.ns,zI 0,zB false,zI 0,zB false,zI (ver+1),.sl 3 3 0 1,zI at_,zI at_,zI x.length,zW (cB x)],.cells [zS (aH at_)],.cells [zS (fileN at_)],.arr 1 [[.s (aH at_)]] 0,.arr 1 [[.s (fileN at_)],[.s (aH at_)]] 0,.cells [.f 123 [6],.ns,.f 124 [6,1],.sl 8 1 0 1,.f 125 [6],.ns,.f 126 [7],.ns,.f 127 [5],.sl 9 1 0 2]]=some (V.tup [(true,[.d (.l (efl.map Fil.enc)),zI ecp,zB ear,zI elf,zB edn]),(false,[zI ee])],[.cells [.d (.l (fl.map Fil.enc)),zI cp,zB ar,zI lf,zB dn,zI ver,.d (.l (segs.map Seg.enc)),zI next,zI sure,zI size,zW sum],.cells [zS x],.cells [.ns,zI 0,zB false,zI 0,zB false,zI 0,.ns,zI 0,zI 0,zI 0,zW 0],.arr 3 [[.i .i64 at_,.i .i64 0,.i .i64 0]] F2,.arr 1 [[.s x]] (max 0 1),.cells [.ns,zI 0,zB false,zI 0,zB false,zI (ver+1),.sl 3 3 0 1,zI at_,zI at_,zI x.length,zW (cB x)],.cells [zS (aH at_)],.cells [zS (fileN at_)],.arr 1 [[.s (aH at_)]] F1,.arr 1 [[.s (fileN at_)],[.s (aH at_)]] F3,.cells [.f 123 [6],.ns,.f 124 [6,1],.sl 8 1 0 1,.f 125 [6],.ns,.f 126 [7],.ns,.f 127 [5],.sl 9 1 0 2]]):=aD (ids:=[10,6,1,8,7,5,3,9]) rfl rfl rfl r1 rfl;clear r1;generalize aH at_=SN at *;generalize fileN at_=SG at *;apply ae Tn rfl;by_cases c3:ee=0
  ·subst c3;rw[if_neg (by simp)]
   obtain⟨FN,hFN⟩:∃ FN,FN=aH fl':=⟨_,rfl⟩;rw[<- hFN] at qn ⊢;clear hFN;obtain⟨NS,hNS⟩:∃ NS,NS=segs.map (fun g=>fileN g.base)++(if 0<fl' then[FN] else[]):=⟨_,rfl⟩
   rw[<- hNS];have hnl:NS.length<=1000:=by
    rw[hNS,zA,zM];split <;> simp <;> omega
   have r2:=Ff ⟨efl,ecp,ear,elf,edn⟩ kr (by omega) (by omega) NS hnl
   generalize zz NS ⟨efl,ecp,ear,elf,edn⟩=z at *;obtain⟨⟨zfl,zcp,zar,zlf,zdn⟩,ze⟩:=z;simp only[Dsk.l,aP,fp,Sto.l,Seg.enc,List.map_cons,List.map_nil,List.cons_append,List.nil_append] at r2 ⊢;(simp(disch:=first|decide|omega|(intros;exact aN rfl rfl)|simp only[am]) only[gu,Lv,q1,zF c1,zF c2,↓jN,fj,cu,q4,q2,q3,g1,go_sem,seval,aO,gc,A.kind,A.xs,bX,A.isN])
   refine ax (m:=0) (σ:=Nat) (fun i=>segs.length-i) (fun i=>i<=segs.length) (fun i=>[V.one (.p 0 0),V.one (.p 1 0),V.one (.p 2 0),V.one (.p 4 0),V.one (.sl 5 2 0 (segs.take i).length),vl (segs.map Seg.enc),vi segs.length,vi i])
    (fun i=>[.cells [.d (.l (fl.map Fil.enc)),zI cp,zB ar,zI lf,zB dn,zI ver,.d (.l (segs.map Seg.enc)),zI next,zI sure,zI size,zW sum],.cells [.ns,zI 0,zB false,zI 0,zB false,zI 0,.ns,zI 0,zI 0,zI 0,zW 0],.cells [.ns,zI 0,zB false,zI 0,zB false,zI (ver+1),.sl 3 3 0 1,zI at_,zI at_,zI x.length,zW (cB x)],.arr 3 [[.i .i64 at_,.i .i64 0,.i .i64 0]] F2,.cells [.d (.l (efl.map Fil.enc)),zI ecp,zB ear,zI elf,zB edn],.arr 2 ((segs.take i).map (fun g=>zj (fileN g.base))) 0])
    (fun _=>(V.tup [(true,[.d (.l (zfl.map Fil.enc)),zI zcp,zB zar,zI zlf,zB zdn,zI (ver+1),.d (.l [[.i .i64 at_,.i .i64 0,.i .i64 0]]),zI at_,zI at_,zI x.length,zW (cB x)]),(false,[zI ze])],([]:Hp))) ?_ 0 (zP _) _ _ ?_
   rotate_left
   ·exact bO
   clear g1 q1 q2 q3 q4;intro i hi R hR;by_cases c4:i<segs.length
   ·have hc4:(i:Int)<(segs.length:Int):=by omega
    have g1:(segs.map Seg.enc)[i]?=some [.i .i64 segs[i].base,.i .i64 segs[i].n,.i .i64 segs[i].size]:=by
     rw[zG,zE c4];rfl
    have g2:=lD (hseg _ (zN c4)).1;have hR':=hR (i+1) (by omega) (by omega)
    rw[zO c4,List.map_append,zA,List.map_cons,List.map_nil,List.length_cons,List.length_nil] at hR';have hrl:((segs.take i).map (fun g=>zj (fileN g.base))).length=(segs.take i).length:=by simp
    have hrl2:(segs.take i).length<=64:=by rw[zQ];omega
    generalize hRQ:(segs.take i).map (fun g=>zj (fileN g.base))=RQ at *
    generalize (segs.take i).length=RL at *;have g3:=qK (fileN segs[i].base);simp only[zj] at hR';generalize fileN segs[i].base=FB at *;generalize segs[i]=sg at *;obtain⟨sb,sn,sz⟩:=sg;simp only at g1 g2;have g4:ak call 128 [vs FB] [.cells [.d (.l (fl.map Fil.enc)),zI cp,zB ar,zI lf,zB dn,zI ver,.d (.l (segs.map Seg.enc)),zI next,zI sure,zI size,zW sum],.cells [.ns,zI 0,zB false,zI 0,zB false,zI 0,.ns,zI 0,zI 0,zI 0,zW 0],.cells [.ns,zI 0,zB false,zI 0,zB false,zI (ver+1),.sl 3 3 0 1,zI at_,zI at_,zI x.length,zW (cB x)],.arr 3 [[.i .i64 at_,.i .i64 0,.i .i64 0]] F2,.cells [.d (.l (efl.map Fil.enc)),zI ecp,zB ear,zI elf,zB edn],.arr 2 RQ 0,.cells [zI sb,zI sn,zI sz]] =
     some (.agg [.f 158 [7],.ns],[.cells [.d (.l (fl.map Fil.enc)),zI cp,zB ar,zI lf,zB dn,zI ver,.d (.l (segs.map Seg.enc)),zI next,zI sure,zI size,zW sum],.cells [.ns,zI 0,zB false,zI 0,zB false,zI 0,.ns,zI 0,zI 0,zI 0,zW 0],.cells [.ns,zI 0,zB false,zI 0,zB false,zI (ver+1),.sl 3 3 0 1,zI at_,zI at_,zI x.length,zW (cB x)],.arr 3 [[.i .i64 at_,.i .i64 0,.i .i64 0]] F2,.cells [.d (.l (efl.map Fil.enc)),zI ecp,zB ear,zI elf,zB edn],.arr 2 RQ 0,.cells [zI sb,zI sn,zI sz],.cells [zS FB],.cells [.f 158 [7],.ns]]):=aD (ids:=[]) rfl rfl rfl g3 rfl
    (simp(disch:=first|decide|omega|(intros;exact aN rfl rfl)|simp only[am]) only[gu,CL,zT hc4,g1,g2,g4,sN,lM,hrl,go_sem,seval,aO,gc,A.kind,A.xs,bX,A.isN])
    exact hR' _ _ bO
   ·have hc4:¬ (i:Int)<(segs.length:Int):=by omega
    have htk:segs.take i=segs:=zL (by omega)
    rw[htk];have hnt:List.take NS.length (NS.map zj)=NS.map zj:=zL (by simp)
    by_cases c5:0<fl'
    ·rw[if_pos c5] at hNS;have hrl:(segs.map (fun g=>zj (fileN g.base))).length=segs.length:=by simp
     have hrw:segs.map (fun g=>zj (fileN g.base))++[[.fn 158 [[.s FN]],.l []]]=NS.map zj:=by rw[hNS];simp[zj]
     have hnl2:segs.length+1=NS.length:=by rw[hNS];simp
     have g3:=qK FN;generalize segs.map (fun g=>zj (fileN g.base))=RQ at *
     have g4:ak call 128 [vs FN] [.cells [.d (.l (fl.map Fil.enc)),zI cp,zB ar,zI lf,zB dn,zI ver,.d (.l (segs.map Seg.enc)),zI next,zI sure,zI size,zW sum],.cells [.ns,zI 0,zB false,zI 0,zB false,zI 0,.ns,zI 0,zI 0,zI 0,zW 0],.cells [.ns,zI 0,zB false,zI 0,zB false,zI (ver+1),.sl 3 3 0 1,zI at_,zI at_,zI x.length,zW (cB x)],.arr 3 [[.i .i64 at_,.i .i64 0,.i .i64 0]] F2,.cells [.d (.l (efl.map Fil.enc)),zI ecp,zB ear,zI elf,zB edn],.arr 2 RQ 0] =
      some (.agg [.f 158 [6],.ns],[.cells [.d (.l (fl.map Fil.enc)),zI cp,zB ar,zI lf,zB dn,zI ver,.d (.l (segs.map Seg.enc)),zI next,zI sure,zI size,zW sum],.cells [.ns,zI 0,zB false,zI 0,zB false,zI 0,.ns,zI 0,zI 0,zI 0,zW 0],.cells [.ns,zI 0,zB false,zI 0,zB false,zI (ver+1),.sl 3 3 0 1,zI at_,zI at_,zI x.length,zW (cB x)],.arr 3 [[.i .i64 at_,.i .i64 0,.i .i64 0]] F2,.cells [.d (.l (efl.map Fil.enc)),zI ecp,zB ear,zI elf,zB edn],.arr 2 RQ 0,.cells [zS FN],.cells [.f 158 [6],.ns]]):=aD (ids:=[]) rfl rfl rfl g3 rfl
     (simp(disch:=first|decide|omega|(intros;exact aN rfl rfl)|simp only[am]) only[gu,CL,Lv,zF hc4,qf,qn,zT c5,g4,sN,lM,hrl,hrw,hnl2,hnt,r2,go_sem,seval,aO,gc,A.kind,A.xs,bX,A.isN])
     try simp[trim]
    ·rw[if_neg c5,List.append_nil] at hNS;have hrl:(segs.map (fun g=>zj (fileN g.base))).length=segs.length:=by simp
     have hrw:segs.map (fun g=>zj (fileN g.base))=NS.map zj:=by rw[hNS];simp
     have hnl2:segs.length=NS.length:=by rw[hNS];simp
     rw[hrw] at hrl ⊢;rw[show(.sl 5 2 0 segs.length:L)=.sl 5 2 0 NS.length by rw[hnl2]]
     refine dm ?_ CL.eq_1 Lv.eq_1 (zF hc4) qf (zF c5) hnt r2;try simp[trim]
  ·rw[if_pos c3];(simp(disch:=first|decide|omega|(intros;exact aN rfl rfl)|simp only[am]) only[gu,Lv,q1,zF c1,zF c2,↓jN,fj,cu,q4,q2,q3,g1,c3,go_sem,seval,aO,gc,A.kind,A.xs,bX,A.isN])
   try simp[trim,c3]
theorem rM {k u:Nat}:∀ (l:List Txt) (d:Dsk),okN k u d->okN k u (cZ l d).1
 | [],d,h=>h
 | a::l,d,h=>by
  have:=dZ (s:=(d,0)) h a;rw[show dF a (d,0)=aj d (bP d.files a) from bv _ _] at this
  simp only[cZ];split
  ·exact this
  ·exact rM l _ this
theorem CB:∀ (l:List Txt) (d:Dsk),(cZ l d).2≠0
 | [],d=>by simp[cZ]
 | a::l,d=>by
  simp only[cZ];split
  ·assumption
  ·exact CB l _
theorem Gs {k u:Nat}:∀ (l:List Txt) (d:Dsk),okN k u d->okN k u (zz l d).1
 | [],d,h=>h
 | a::l,d,h=>by
  have:=dZ (s:=(d,0)) h a;rw[show dF a (d,0)=aj d (bP d.files a) from bv _ _] at this
  by_cases c:(aj d (bP d.files a)).2=0
  ·have e1:zz (a::l) d=zz l (aj d (bP d.files a)).1:=if_pos c;rw[e1];exact Gs l _ this
  ·have e1:zz (a::l) d=aj d (bP d.files a):=if_neg c;rw[e1];exact this
theorem KU {k u:Nat} {s:Sto} (h:okS k u s) (at_:Int) {x:Txt} (hx:x.length<=20000):okS (k+3) (u+30000) (bf s at_ x).1:=by
 have h2:=h.up (k':=k+3) (u':=u+30000) (by omega) (by omega)
 have kr:okN (k+3) (u+30000) (u0 (aH at_) (fileN at_) x (fp (s.ver+1) at_ x).man s.disk).1.1:=Lm h.dsk hx trivial trivial _;unfold bf;by_cases c0:aR x=none∨at_<=s.next∨1099511627776<at_
 ·rw[if_pos c0];exact h2
 ·rw[if_neg c0];have c1:¬ at_<=s.next:=fun h=>c0 (Or.inr (Or.inl h))
  have c2:¬ 1099511627776<at_:=fun h=>c0 (Or.inr (Or.inr h))
  have hn:=h.next;have hv:=h.ver;split
  ·exact⟨kr,h2.len,h2.seg,h2.next,h2.ver,h2.sum⟩
  ·refine⟨Gs _ _ kr,by show 1<=1∧1<=64;omega,fun g hg=>?_,by show 0<=at_∧at_<=1099511627776;omega,by show 0<=s.ver+1∧s.ver+1<=((u+30000:Nat):Int);omega,pd x⟩
   have hg':g∈[(⟨at_,0,0⟩:Seg)]:=hg;rw[zV] at hg';subst hg';exact⟨by show 0<=at_∧at_<=1099511627776;omega,by show(0:Int)<=0∧(0:Int)<=((u+30000:Nat):Int);omega,by show(0:Int)<=0∧(0:Int)<=((u+30000:Nat):Int);omega⟩
def exW:Txt:=[1,97,1,49]
variable {k u:Nat} {f:Int} {S:Txt} {l0:List Pr} {s:Sto} {M:List SR} {g:Seg} {l:List Rec}
theorem yG (G:FM):∀ (l:List Txt) (d:Dsk),srt d.files->l.Nodup->d.down=false->(∀ n∈l,fm d.files n≠none)->Out d (cZ l d) l G (some (Ap l (fm d.files)))
 | [],d,hs,_,hd,_=>⟨Dk.refl d,hs,.inr (.inl ⟨_,rfl,rfl,hd,by funext k;simp[Ap,cZ]⟩)⟩
 | n::l,d,hs,hn,hd,h=>by
  have hn:=List.nodup_cons.1 hn;obtain⟨v,hv⟩:=Option.ne_none_iff_exists'.1 (h n (by simp))
  have h1:=wQ hs hv;have e2:cZ (n::l) d=if(aj d (bP d.files n)).2=0 then cZ l (aj d (bP d.files n)).1 else aj d (bP d.files n):=by
   rw[cZ];by_cases c:(aj d (bP d.files n)).2=0
   ·rw[if_neg (by simp[c]),if_pos c]
   ·rw[if_pos c,if_neg c]
  rw[e2];refine Out.seq h1 (X2:=l) (g2:=some (Ap (n::l) (fm d.files))) ?_ ?_ (by simp) (fun k hk=>by simp[hk]) (by simp) (by simp)
  ·intro h0 hd1 hf1 hs1;have h2:=yG G l (aj d (bP d.files n)).1 hs1 hn.2 hd1 (fun k hk=>by
    rw[hf1,bn _ _ (fun e=>hn.1 (by rw[<- e];exact hk))];exact h k (by simp[hk]))
   rw[hf1] at h2;refine h2.eq rfl ?_;congr 1
   funext k
   unfold Ap;by_cases c:k=n
   ·simp[c,hn.1,cU]
   ·by_cases c2:k∈l
    ·rw[if_pos c2,if_pos (List.mem_cons_of_mem _ c2)]
    ·rw[if_neg c2,if_neg (by simp[c,c2]),bn _ _ c]
  ·intro k hk;exact bn _ _ (fun e=>hk (by simp[e]))
theorem Out.back {d:Dsk} {r:Dsk × Int} {X:List Txt} {G g:FM} (h:Out d r X G (some g)) (l:List Txt) (hl:l.Nodup) (hn:∀ n∈l,g n≠none) (hg:∀ k,k ∉ X->k ∉ l->g k=fm d.files k) (hX:∀ n∈l,n∈X):Out d (if r.2=9 then cZ l r.1 else r) X G (some (Ap l g)):=by
 obtain⟨k1,s1,o1⟩:=h;rcases o1 with⟨e,hd,hf⟩|⟨q,hq,e,hd,hf⟩|⟨e,hd,hf⟩
 ·rw[if_neg (by rw[e];decide)]
  exact⟨k1,s1,.inl ⟨e,hd,hf⟩⟩
 ·cases hq;rw[if_pos e];have hb:=yG G l r.1 s1 hl hd (by rw[hf];exact hn)
  rw[hf] at hb;refine⟨k1.trans hb.1,hb.2.1,?_⟩;rcases hb.2.2 with o|o|⟨e2,hd2,hf2⟩
  ·exact .inl o
  ·exact .inr (.inl o)
  ·refine .inr (.inr ⟨e2,hd2,fun k hk=>?_⟩)
   have hkl:k ∉ l:=fun hm=>hk (hX k hm)
   rw[hf2 k hkl,hf];exact hg k hk hkl
 ·rw[if_neg (by rw[e];decide)]
  exact⟨k1,s1,.inr (.inr ⟨e,hd,hf⟩)⟩
theorem Qy (F:FM) (n:Txt):Ap [n] F=up F n none:=by
 funext k;unfold Ap up;simp
theorem GP {F:FM} {a b:Txt} (v w:Option (Txt × Int)) (ha:F a=none) (hb:F b=none):Ap [b,a] (up (up F a v) b w)=F:=by
 funext k;unfold Ap up
 by_cases c1:k=b
 ·simp[c1,hb]
 ·by_cases c2:k=a
  ·simp[c2,ha]
  ·simp[c1,c2]
theorem LF {d:Dsk} (hs:srt d.files) {n g x:Txt} {m:Man} (hm:manB m=true) (hn:dx n=true) (hg:dx g=true) (hng:n≠g) (hn2:n≠[110]) (hg2:g≠[110]) (h1:d.down=false->fm d.files [110]=none) (h2:d.down=false->fm d.files n=none) (h3:d.down=false->fm d.files g=none) :
  Out d (u0 n g x m d).1 [n,g,[110]] (up (up (up (fm d.files) n (some (x,((x.length:Nat):Int)))) g (some ([],0))) [109] (manV m)) (some (fm d.files)):=by
 by_cases hd:d.down=true
 ·unfold u0;rw[ku hd,if_pos (by simp)]
  exact .dn hs hd _ _ _
 ·have hd:d.down=false:=by simpa using hd
  have hF:=h2 hd;have hG:=h3 hd;have hN:=h1 hd;have k4:∀ d4:Dsk,srt d4.files->d4.down=false->fm d4.files=up (up (fm d.files) n (some (x,((x.length:Nat):Int)))) g (some ([],0))->Out d4 (u4 n g m d4).1 [n,g,[110]] (up (up (up (fm d.files) n (some (x,((x.length:Nat):Int)))) g (some ([],0))) [109] (manV m)) (some (fm d.files)):=by
   intro d4 hs4 hd4 hf4;have a1:=(o6 hs4 hm (fun _=>by rw[hf4,bn _ _ hg2.symm,bn _ _ hn2.symm];exact hN)).upX (Y:=[n,g,[110]]) (by simp)
   have a2:=a1.back [g,n] (by simp[hng.symm]) (by
    intro y hy;simp only[List.mem_cons,List.mem_nil_iff,or_false] at hy;rcases hy with rfl|rfl
    ·rw[hf4,cU];simp
    ·rw[hf4,bn _ _ hng,cU];simp) (fun _ _ _=>rfl) (by simp)
   have e:(u4 n g m d4).1=if(bT m (d4,0)).2=9 then cZ [g,n] (bT m (d4,0)).1 else bT m (d4,0):=by unfold u4;split <;> rfl
   rw[e];rw[hf4] at a2;refine a2.eq rfl ?_;rw[GP _ _ hF hG]
  have k3:∀ d3:Dsk,srt d3.files->d3.down=false->fm d3.files=up (fm d.files) n (some (x,((x.length:Nat):Int)))->Out d3 (u3 n g m d3).1 [n,g,[110]] (up (up (up (fm d.files) n (some (x,((x.length:Nat):Int)))) g (some ([],0))) [109] (manV m)) (some (fm d.files)):=by
   intro d3 hs3 hd3 hf3;have a1:=mO hs3 hg (by rw[hf3,bn _ _ hng.symm];exact hG)
   have e:(u3 n g m d3).1=if(aj d3 (bm d3.files g)).2=0 then(u4 n g m (aj d3 (bm d3.files g)).1).1 else aj d3 (bm d3.files g):=by
    unfold u3;by_cases c:(aj d3 (bm d3.files g)).2=0
    ·rw[if_neg (by simp[c]),if_pos c]
    ·rw[if_pos c,if_neg c]
   rw[e];refine Out.seq a1 (g2:=some (fm d.files)) (fun h0 hd4 hf4 hs4=>k4 _ hs4 hd4 (by rw[hf4,hf3])) (fun y hy=>?_) (by simp) (fun _ h=>h) (by simp) (by simp)
   exact bn _ _ (fun e=>hy (by simp[e]))
  have k2:∀ d2:Dsk,srt d2.files->d2.down=false->fm d2.files=up (fm d.files) n (some (x,0))->Out d2 (u2 n g m d2).1 [n,g,[110]] (up (up (up (fm d.files) n (some (x,((x.length:Nat):Int)))) g (some ([],0))) [109] (manV m)) (some (fm d.files)):=by
   intro d2 hs2 hd2 hf2;have a1:=oq hs2 (n:=n) (v:=(x,0)) (by rw[hf2,cU])
   rw[hf2,jo] at a1;have e:(u2 n g m d2).1=if(aj d2 (ct d2.files n)).2=0 then(u3 n g m (aj d2 (ct d2.files n)).1).1 else aj d2 (ct d2.files n):=by
    unfold u2;by_cases c:(aj d2 (ct d2.files n)).2=0
    ·rw[if_neg (by simp[c]),if_pos c]
    ·rw[if_pos c,if_neg c]
   rw[e];refine Out.seq a1 (g2:=some (fm d.files)) (fun h0 hd4 hf4 hs4=>k3 _ hs4 hd4 hf4) (fun y hy=>?_) (by simp) (fun _ h=>h) (by simp) (by simp)
   rw[hf2,bn _ _ (fun e=>hy (by simp[e])),bn _ _ (fun e=>hy (by simp[e]))]
  have k1:∀ d1:Dsk,srt d1.files->d1.down=false->fm d1.files=up (fm d.files) n (some ([],0))->Out d1 (u1 n g x m d1).1 [n,g,[110]] (up (up (up (fm d.files) n (some (x,((x.length:Nat):Int)))) g (some ([],0))) [109] (manV m)) (some (fm d.files)):=by
   intro d1 hs1 hd1 hf1;have a1:=(rQ hs1 x (n:=n) (v:=([],0)) (by rw[hf1,cU])).upX (Y:=[n,g,[110]]) (by simp)
   have a2:=a1.back [n] (by simp) (by
    intro y hy;rw[zV.1 hy,hf1,cU];simp) (fun _ _ _=>rfl) (by simp)
   rw[hf1,jo,Qy,jo,lF hF] at a2;have e:(u1 n g x m d1).1=if(if(aj d1 (bK d1.files d1.cap n x)).2=9 then cZ [n] (aj d1 (bK d1.files d1.cap n x)).1 else aj d1 (bK d1.files d1.cap n x)).2=0 then(u2 n g m (if(aj d1 (bK d1.files d1.cap n x)).2=9 then cZ [n] (aj d1 (bK d1.files d1.cap n x)).1 else aj d1 (bK d1.files d1.cap n x)).1).1 else(if(aj d1 (bK d1.files d1.cap n x)).2=9 then cZ [n] (aj d1 (bK d1.files d1.cap n x)).1 else aj d1 (bK d1.files d1.cap n x)):=by
    unfold u1;by_cases c:(aj d1 (bK d1.files d1.cap n x)).2=9
    ·rw[if_pos c,if_pos c,if_neg (CB _ _)]
    ·rw[if_neg c,if_neg c];by_cases c0:(aj d1 (bK d1.files d1.cap n x)).2=0
     ·rw[if_neg (by simp[c0]),if_pos c0]
     ·rw[if_pos c0,if_neg c0]
   rw[e];refine Out.seq a2 (X2:=[n,g,[110]]) (g2:=some (fm d.files)) (fun h0 hd4 hf4 hs4=>k2 _ hs4 hd4 hf4) (fun y hy=>?_) (fun _ h=>h) (fun _ h=>h) (by simp) (by simp)
   rw[hf1];exact(bn _ _ (fun e=>hy (by simp[e]))).trans (bn _ _ (fun e=>hy (by simp[e]))).symm
  have a1:=mO hs hn hF;have e:(u0 n g x m d).1=if(aj d (bm d.files n)).2=0 then(u1 n g x m (aj d (bm d.files n)).1).1 else aj d (bm d.files n):=by
   unfold u0;by_cases c:(aj d (bm d.files n)).2=0
   ·rw[if_neg (by simp[c]),if_pos c]
   ·rw[if_pos c,if_neg c]
  rw[e];refine Out.seq a1 (g2:=some (fm d.files)) (fun h0 hd4 hf4 hs4=>k1 _ hs4 hd4 hf4) (fun y hy=>?_) (by simp) (fun _ h=>h) (by simp) (by simp)
  exact bn _ _ (fun e=>hy (by simp[e]))
theorem vR:∀ (l:List Txt) (d:Dsk),zz l d=uq l (d,0)
 | [],d=>rfl
 | n::l,d=>by
  have e1:dF n (d,0)=aj d (bP d.files n):=bv _ _;rw[oH,e1,zz];split
  ·rename_i h0;rw[vR l,<- gR h0]
  ·rename_i h0;exact(wY l _ h0).symm
variable {k u:Nat} {f:Int} {S:Txt} {l0:List Pr} {s:Sto} {M:List SR} {g:Seg} {l:List Rec}
theorem A8 {ver at_:Int} {x:Txt} (hv:1<=ver∧ver<=1099511627776) (ha:0<at_∧at_<=1099511627776) (hx:1<=x.length∧x.length<=65536):manB (fp ver at_ x).man=true:=by
 refine v6 hv ⟨by simp[fp,Sto.man],by simp[fp,Sto.man]⟩ ?_ (.inr ⟨?_,?_⟩)
 ·show j7 (-1) [at_]=true;simp[j7];omega
 ·show([at_]:List Int).head?≠some 0;simp;omega
 ·show 0<((x.length:Nat):Int)∧((x.length:Nat):Int)<=65536;omega
theorem xE (ho:okS k u s) (h:W f S l0 s M g l):(fJ s).Nodup:=by
 have:=t7 ho h s.segs.length;unfold jW at this;rw[List.take_length] at this;exact this
theorem DI {x:Txt} {q:List Pr} (h:aR x=some q):1<=x.length:=by
 cases x with
 | nil=>simp[aR,j8] at h
 | cons a r=>simp
theorem WR.inst {R:List Rec} (ho:okS k u s) (h:WR f S l0 s R) (hv:u<1000000000000) (at_:Int) {x:Txt} (hx:x.length<=20000) :
  ((bf s at_ x).2=1∧(bf s at_ x).1=s∧(aR x=none∨at_<=s.next∨1099511627776<at_)) ∨
  ((∃ q,aR x=some q∧s.next<at_∧at_<=1099511627776 ∧
   ((((bf s at_ x).2=9∧(bf s at_ x).1.disk.down=false∧fm (bf s at_ x).1.disk.files=fm s.disk.files)∨((bf s at_ x).2=10∧(bf s at_ x).1.disk.down=true))∧(bf s at_ x).1={ s with disk:=(bf s at_ x).1.disk }∧srt (bf s at_ x).1.disk.files∧Dk s.disk (bf s at_ x).1.disk∧WR f S l0 (bf s at_ x).1 R ∨
   ((bf s at_ x).2=0∧(bf s at_ x).1.disk.down=false∨(bf s at_ x).2=10∧(bf s at_ x).1.disk.down=true)∧WR at_ x q (bf s at_ x).1 []∧(bf s at_ x).1.next=at_∧(bf s at_ x).1.sure=at_∧(bf s at_ x).1.disk.cap=s.disk.cap))):=by
 have h0:=h;have hsn:=h.sure;have hfl:=WR.floor h0;have hf0:0<=f:=by rw[<- hfl];exact(eC ho).1
 obtain⟨M,g,l,h,rfl⟩:=h;unfold bf;by_cases c0:aR x=none∨at_<=s.next∨1099511627776<at_
 ·rw[if_pos c0];exact .inl ⟨rfl,rfl,c0⟩
 ·rw[if_neg c0];simp only[not_or] at c0;obtain⟨q,hq⟩:=Option.ne_none_iff_exists'.1 c0.1;have hna:s.next<at_:=by omega
  have hab:at_<=1099511627776:=by omega
  have hxp:=DI hq;have hv1:=(ma h.right).1.1;have hv2:=ho.ver;have hvm:s.man.ver=s.ver:=rfl;rw[hvm] at hv1;refine .inr ⟨q,hq,hna,hab,?_⟩;have hmr:manB (fp (s.ver+1) at_ x).man=true:=A8 (by omega) (by omega) (by omega)
  have hbase:∀ a∈s.segs,0<=a.base∧a.base<=s.next:=by
   intro a ha;have hn:=h.inv.next;have hcm:=dB _ _ _ h.inv.chain;refine⟨(ho.seg a ha).1.1,?_⟩;rw[h.inv.segs] at ha;rcases zX.1 ha with ha|ha
   ·obtain⟨p,hp,rfl⟩:=List.mem_map.1 ha;have:=hcm.2 p hp;omega
   ·rw[zV.1 ha];omega
  have nr1:¬ rel f s (aH at_):=W.not_rel ho (by omega) (by omega)
  have nr2:¬ rel f s (fileN at_):=by
   rintro(e|⟨b,hb,e⟩|⟨_,e⟩)
   ·exact absurd e (jZ _ (by rw[bV];decide))
   ·have:=dN (by omega) (ho.seg b hb).1 e
    have:=hbase b hb;omega
   ·exact absurd e.symm (cV _ _)
  have none_of:∀ n,¬ rel f s n->s.disk.down=false->fm s.disk.files n=none:=fun n hn hd=>by
   cases hx:fm s.disk.files n with
   | none=>rfl
   | some v=>exact absurd (h.only hd n (by rw[hx];simp)) hn
  have hO:=LF ho.dsk.srt (n:=aH at_) (g:=fileN at_) (x:=x) hmr (HR _) (Af _) (cV _ _) (z8 _ (by rw[dC];decide)) (z8 _ (by rw[bV];decide)) (none_of _ (mD f s)) (none_of _ nr1) (none_of _ nr2)
  generalize (u0 (aH at_) (fileN at_) x (fp (s.ver+1) at_ x).man s.disk).1=e at *;by_cases c1:e.2=0
  ·rw[if_neg (by simp[c1])]
   rcases hO.2.2 with⟨_,hd,hf⟩|⟨_,_,e9,_⟩|⟨e10,_⟩
   ·refine .inr ?_;have hdn:=hO.1.up_of hd;have hmem:∀ m,m∈fJ s↔(∃ a∈s.segs,m=fileN a.base)∨(0<f∧m=aH f):=by
     intro m;unfold fJ;rw[zX,List.mem_map,hfl];constructor
     ·rintro(⟨a,ha,rfl⟩|hm)
      ·exact .inl ⟨a,ha,rfl⟩
      ·split at hm
       ·rename_i c;exact .inr ⟨c,zV.1 hm⟩
       ·cases hm
     ·rintro(⟨a,ha,rfl⟩|⟨hc,rfl⟩)
      ·exact .inl ⟨a,ha,rfl⟩
      ·rw[if_pos hc];exact .inr (by simp)
    have hne:∀ m∈fJ s,m≠[109]∧m≠aH at_∧m≠fileN at_∧fm s.disk.files m≠none:=by
     intro m hm;have hr:rel f s m:=by
      rcases(hmem m).1 hm with hm|hm
      ·exact .inr (.inl hm)
      ·exact .inr (.inr hm)
     refine⟨?_,fun e=>nr1 (e ▸ hr),fun e=>nr2 (e ▸ hr),?_⟩
     ·rcases(hmem m).1 hm with⟨a,_,rfl⟩|⟨_,rfl⟩
      ·exact jZ _ (by rw[bV];decide)
      ·exact jZ _ (by rw[dC];decide)
     ·rcases(hmem m).1 hm with⟨a,ha,rfl⟩|⟨hc,rfl⟩
      ·rw[h.inv.segs] at ha;rcases zX.1 ha with ha|ha
       ·obtain⟨p,hp,rfl⟩:=List.mem_map.1 ha;rw[h.full p hp];simp
       ·rw[zV.1 ha];obtain⟨j,h1,_⟩:=h.last;rw[h1];simp
      ·rcases h.snp with⟨h1,_⟩|⟨_,h1,_⟩
       ·omega
       ·rw[h1];simp
    have hg:=vS (fJ s) e.1 hO.2.1 (xE ho h) hd (fun m hm=>by
     have:=hne m hm;rw[hf,bn _ _ this.1,bn _ _ this.2.2.1,bn _ _ this.2.1];exact this.2.2.2)
    rw[vR];generalize uq (fJ s) (e.1,0)=w at *;have n1:[109] ∉ fJ s:=fun hm=>(hne _ hm).1 rfl
    have n2:aH at_ ∉ fJ s:=fun hm=>(hne _ hm).2.1 rfl
    have n3:fileN at_ ∉ fJ s:=fun hm=>(hne _ hm).2.2.1 rfl
    have hkeep:∀ m,m ∉ fJ s->fm w.1.files m=fm e.1.files m:=by
     intro m hm;rcases hg.2.2 with⟨_,_,hf⟩|⟨_,hc,_⟩|⟨_,_,hf⟩
     ·rw[hf];exact if_neg hm
     ·cases hc
     ·exact hf m hm
    refine⟨?_,⟨[],⟨at_,0,0⟩,[],⟨⟨rfl,fun p hp=>?_,rfl,by show at_=at_+_;simp,by show 0<=at_∧at_<=at_;omega⟩,.inr ⟨by omega,?_,hq,rfl,rfl⟩,?_,hmr,fun p hp=>(by cases hp),⟨0,?_,by simp[rowS],by simp⟩,Int.le_refl _,fun hd2 m hm=>?_⟩,rfl⟩,rfl,rfl,hg.1.cap.trans hO.1.cap⟩
    ·rcases hg.2.2 with⟨a,b,_⟩|⟨_,hc,_⟩|⟨a,b,_⟩
     ·exact .inl ⟨a,b⟩
     ·cases hc
     ·exact .inr ⟨a,b⟩
    ·rw[List.nil_append,zV] at hp;subst hp;refine⟨(lA hg.2.1 _ _).2 ⟨0,?_⟩,fun r hr=>(by cases hr),fun i hi=>(by simp at hi),rfl,rfl⟩
     rw[hkeep _ n3,hf,bn _ _ (jZ _ (by rw[bV];decide)),cU];rfl
    ·show fm w.1.files _=_;rw[hkeep _ n2,hf,bn _ _ (jZ _ (by rw[dC];decide)),bn _ _ (cV _ _),cU]
    ·show fm w.1.files _=_;rw[hkeep _ n1,hf,cU];rfl
    ·show fm w.1.files _=_;rw[hkeep _ n3,hf,bn _ _ (jZ _ (by rw[bV];decide)),cU];rfl
    ·have hm2:fm w.1.files m≠none:=hm;have hd3:w.1.down=false:=hd2;rcases hg.2.2 with⟨_,_,hfw⟩|⟨_,hc,_⟩|⟨_,b,_⟩
     ·rw[hfw] at hm2;unfold Ap at hm2;by_cases c:m∈fJ s
      ·rw[if_pos c] at hm2;exact absurd rfl hm2
      ·rw[if_neg c,hf] at hm2;by_cases a1:m=[109]
       ·exact .inl a1
       ·rw[bn _ _ a1] at hm2;by_cases a2:m=fileN at_
        ·exact .inr (.inl ⟨⟨at_,0,0⟩,by show _∈[(⟨at_,0,0⟩:Seg)];simp,a2⟩)
        ·rw[bn _ _ a2] at hm2;by_cases a3:m=aH at_
         ·exact .inr (.inr ⟨by omega,a3⟩)
         ·rw[bn _ _ a3] at hm2;rcases h.only hdn m hm2 with e|e|e
          ·exact absurd e a1
          ·exact absurd ((hmem m).2 (.inl e)) c
          ·exact absurd ((hmem m).2 (.inr e)) c
     ·cases hc
     ·rw[hd3] at b;cases b
   ·rw[e9] at c1;cases c1
   ·rw[e10] at c1;cases c1
  ·rw[if_pos c1];have hw:=h.fail ho.dsk.srt hO c1 (by
    intro m hm;simp only[List.mem_cons,List.mem_nil_iff,or_false] at hm;rcases hm with rfl|rfl|rfl
    ·exact nr1
    ·exact nr2
    ·exact mD f s)
   refine .inl ⟨?_,rfl,hO.2.1,hO.1,M,g,l,hw.1,rfl⟩;rcases hw.2 with⟨a,b,c⟩|⟨a,b⟩
   ·exact .inl ⟨a,c,b⟩
   ·exact .inr ⟨a,b⟩
variable {k u:Nat}
def idl (p:Bool) (d:Dsk):Prop:=d.cap=0∧(p=true->d.armed=false∧d.down=false)
def i0 (p:Bool) (r:Dsk × Int):Prop:=idl p r.1∧r.2≠9∧(p=true->r.2≠10)
variable {p:Bool} {d:Dsk} {s:Dsk × Int} {t:Sto}
theorem Ia (h:idl p d) {r:List Fil × Int} (hr:r.2≠9∧r.2≠10):i0 p (aj d r):=by
 obtain⟨h1,h2⟩:=h;unfold aj;split
 ·rename_i c;exact⟨⟨h1,h2⟩,by simp,fun hp=>by rw[(h2 hp).2] at c;cases c⟩
 ·split
  ·exact⟨⟨h1,h2⟩,hr.1,fun _=>hr.2⟩
  ·split
   ·rename_i c;have hn:¬ p=true:=fun hp=>by rw[(h2 hp).1] at c;cases c
    split
    ·exact⟨⟨h1,fun hp=>absurd hp hn⟩,by simp,fun hp=>absurd hp hn⟩
    ·exact⟨⟨h1,fun hp=>absurd hp hn⟩,by simp,fun hp=>absurd hp hn⟩
   ·exact⟨⟨h1,h2⟩,by simp,by simp⟩
theorem Gy (h:idl p d) (n:Txt):i0 p (aj d (bm d.files n)):=Ia h (by
 unfold bm;split
 ·split <;> simp
 ·simp)
theorem IV (h:idl p d) (n x:Txt):i0 p (aj d (bK d.files d.cap n x)):=Ia h (by
 unfold bK;rw[h.1];split
 ·simp
 ·simp)
theorem Kw (h:idl p d) (n:Txt):i0 p (aj d (ct d.files n)):=Ia h (by unfold ct;split <;> simp)
theorem Og (h:idl p d) (n:Txt):i0 p (aj d (bP d.files n)):=Ia h (by unfold bP;split <;> simp)
theorem Rh (h:idl p d) (n t:Txt):i0 p (aj d (iC d.files n t)):=Ia h (by
 unfold iC;split
 ·split <;> simp
 ·simp)
theorem uB {f:Dsk->Dsk × Int} (h:i0 p s) (hf:idl p s.1->i0 p (f s.1)):i0 p (vC s f):=by
 unfold vC;split
 ·exact hf h.1
 ·exact h
theorem Kp (h:i0 p s) (n:Txt):cO n s=s:=by unfold cO;rw[if_pos h.2.1]
theorem Gd (h:i0 p s) (m:Man):i0 p (bT m s):=by
 unfold bT;simp only[];have h1:i0 p (if s.2=0 then(s.1,(bF m).2) else s):=by
  split
  ·exact⟨h.1,by unfold bF;split <;> simp,by unfold bF;split <;> simp⟩
  ·exact h
 generalize (if s.2=0 then(s.1,(bF m).2) else s)=s1 at *
 have h2:i0 p (if(bS s1.1.files [110]).2=0 then dF [110] s1 else s1):=by
  split
  ·exact uB h1 fun h=>Og h _
  ·exact h1
 generalize (if(bS s1.1.files [110]).2=0 then dF [110] s1 else s1)=s2 at *
 have h3:i0 p (bL [110] s2):=uB h2 fun h=>Gy h _
 split
 ·exact h3
 ·have h4:i0 p (fO [110] (bF m).1 (bL [110] s2)):=uB h3 fun h=>IV h _ _
  rw[Kp h4];have h5:i0 p (ga [110] (fO [110] (bF m).1 (bL [110] s2))):=uB h4 fun h=>Kw h _
  exact uB h5 fun h=>Rh h _ _
theorem MX:∀ (l:List Txt) (s:Dsk × Int),i0 p s->i0 p (uq l s)
 | [],s,h=>h
 | n::l,s,h=>MX l _ (uB h fun h=>Og h n)
theorem Ts (h:idl p d) (n g x:Txt) (m:Man):i0 p (u0 n g x m d).1:=by
 have p4:∀ d:Dsk,idl p d->i0 p (u4 n g m d).1:=fun d h=>by
  have h2:=Gd (s:=(d,0)) ⟨h,by simp,by simp⟩ m
  unfold u4;rw[if_neg h2.2.1];exact h2
 have p3:∀ d:Dsk,idl p d->i0 p (u3 n g m d).1:=fun d h=>by
  have h2:=Gy h g;unfold u3;split
  ·exact h2
  ·exact p4 _ h2.1
 have p2:∀ d:Dsk,idl p d->i0 p (u2 n g m d).1:=fun d h=>by
  have h2:=Kw h n;unfold u2;split
  ·exact h2
  ·exact p3 _ h2.1
 have p1:∀ d:Dsk,idl p d->i0 p (u1 n g x m d).1:=fun d h=>by
  have h2:=IV h n x;unfold u1;rw[if_neg h2.2.1];split
  ·exact h2
  ·exact p2 _ h2.1
 have h2:=Gy h n;unfold u0;split
 ·exact h2
 ·exact p1 _ h2.1
def j0 (p:Bool) (t:Sto) (r:Sto × Int):Prop:=i0 p (r.1.disk,r.2)∧r.1.ver<=t.ver+1
theorem Pp (h:idl p t.disk) (at_:Int) (x:Txt):j0 p t (bf t at_ x):=by
 unfold bf;split
 ·exact⟨⟨h,by simp,by simp⟩,by show t.ver<=_;omega⟩
 ·have h2:=Ts h (aH at_) (fileN at_) x (fp (t.ver+1) at_ x).man;split
  ·exact⟨h2,by show t.ver<=_;omega⟩
  ·rename_i hc;refine⟨?_,Int.le_refl _⟩;show i0 p (zz _ _);rw[vR];exact MX (fJ t) ((u0 (aH at_) (fileN at_) x (fp (t.ver+1) at_ x).man t.disk).1.1,0) ⟨h2.1,by simp,by simp⟩
theorem Lj (h:idl p t.disk):i0 p ((aU t).1.disk,(aU t).2)∧(aU t).1.ver=t.ver:=⟨Kw h (fileN t.last.base),rfl⟩
theorem OW (h:idl p t.disk) (hl:t.segs.length<64):j0 p t (cq t):=by
 unfold cq;rw[if_neg (by omega)]
 have h1:=(Lj h).1;split
 ·exact⟨h1,by show t.ver<=_;omega⟩
 ·have h2:i0 p (ef (aU t).1):=by
   unfold ef;simp only[];have h3:i0 p (bL (fileN (aU t).1.next) ((aU t).1.disk,0)):=uB ⟨h1.1,by simp,by simp⟩ fun h=>Gy h _
   split
   ·have h4:=Gd h3 (jz (aU t).1).man;rw[Kp h4];exact h4
   ·exact h3
  split
  ·exact⟨⟨h2.1,by simp,by simp⟩,Int.le_refl _⟩
  ·exact⟨h2,by show t.ver<=_;omega⟩
theorem O2 (h:idl p t.disk) (x:Txt):i0 p ((f9 t x).1.disk,(f9 t x).2)∧(f9 t x).1.ver=t.ver:=by
 have h1:=IV h (fileN t.last.base) x;unfold f9;simp only[];split
 ·exact⟨h1,rfl⟩
 ·exact⟨⟨h1.1,by simp,by simp⟩,rfl⟩
theorem PA (h:idl p t.disk) (hl:t.segs.length<64) (seg:Int) (r:Rec):j0 p t (eu t seg r):=by
 have h1:=OW h hl;unfold eu;split
 ·exact⟨⟨h,by simp,by simp⟩,by show t.ver<=_;omega⟩
 ·split
  ·exact⟨⟨h,by simp,by simp⟩,by show t.ver<=_;omega⟩
  ·split
   ·split
    ·exact h1
    ·have h2:=O2 h1.1.1 (d9 r).1;exact⟨h2.1,by rw[h2.2];exact h1.2⟩
   ·have h2:=O2 h (d9 r).1;exact⟨h2.1,by rw[h2.2];omega⟩
theorem QZ (h:idl p d) (n x:Txt) (m:Man):i0 p (nQ d n x m):=by
 unfold nQ;simp only[];have h1:i0 p (bL n (d,0)):=uB ⟨h,by simp,by simp⟩ fun h=>Gy h _
 have h2:i0 p (if(bL n (d,0)).2=0 then cO n (fO n x (bL n (d,0))) else bL n (d,0)):=by
  split
  ·have h3:i0 p (fO n x (bL n (d,0))):=uB h1 fun h=>IV h _ _
   rw[Kp h3];exact h3
  ·exact h1
 generalize (if(bL n (d,0)).2=0 then cO n (fO n x (bL n (d,0))) else bL n (d,0))=s2 at *
 have h3:i0 p (ga n s2):=uB h2 fun h=>Kw h _
 split
 ·have h4:=Gd h3 m;rw[Kp h4];exact h4
 ·exact h3
theorem Od (h:idl p t.disk) (keep count:Int):j0 p t (cM t keep count):=by
 unfold cM;split
 ·exact⟨⟨h,by simp,by simp⟩,by show t.ver<=_;omega⟩
 ·unfold tv;simp only[];have h1:=QZ h (aH (aW t.segs (eD t.segs keep count))) (aZ (bB t (aW t.segs (eD t.segs keep count)))) (eK t (eD t.segs keep count)).man;split
  ·exact⟨h1,by show t.ver<=_;omega⟩
  ·rw[AK];exact⟨MX _ _ h1,Int.le_refl _⟩
theorem Ay (l:List Pr) (hl:l.length<=1000000):call 19 [vl (l.map Pr.enc),vl (l.map Pr.enc)] []=some (vb true,[]):=by
 apply ae TJ rfl;refine aX ?_ SH.eq_1;refine ax (m:=0) (σ:=Nat) (fun i=>l.length-i) (fun i=>i<=l.length) (fun i=>[vl (l.map Pr.enc),vl (l.map Pr.enc),vi i]) (fun _=>[])
  (fun _=>(vb true,[])) ?_ 0 (zP _) _ _ bO
 intro i h1 R hR;by_cases hi:i<l.length
 ·have g1:(l.map Pr.enc)[i]?=some l[i].enc:=by rw[zG,zE hi];rfl
  have hR':=hR (i+1) (by omega) (by omega)
  generalize l[i]=p at *;have he:=Pr.eqs p p;refine aX ?_ Iq.eq_1 g1 @Pr.len @Pr.tkL @Pr.tk he;exact hR' _ _ bO
 ·refine aX ?_ Iq.eq_1 SH.eq_1;try simp[trim]
def pS (l:List Fil):List Txt:=l.map Fil.name
variable {k u:Nat} {f:Int} {S:Txt} {l0:List Pr} {s:Sto} {M:List SR} {g:Seg} {l:List Rec}
theorem vo {l:List Fil} (h:srt l):(pS l).Nodup:=by
 unfold pS List.Nodup;rw[List.pairwise_map];refine List.Pairwise.imp ?_ h;intro a b hab e;rw[e,kT] at hab;cases hab
variable {k u:Nat} {f:Int} {S:Txt} {l0:List Pr} {s:Sto} {M:List SR} {g:Seg} {l:List Rec}
theorem xy:∀ (l m:List Txt),l.Nodup->(∀ x∈l,x∈m)->l.length<=m.length
 | [],m,_,_=>Nat.zero_le _
 | x::l,m,h,hs=>by
  obtain⟨h1,h2⟩:=List.nodup_cons.1 h;have hx:=hs x (by simp)
  have e:=List.length_erase_of_mem hx;have ih:=xy l (m.erase x) h2 fun y hy=>by
   have hne:y≠x:=fun e=>h1 (e ▸ hy)
   exact(List.mem_erase_of_ne hne).2 (hs y (by simp[hy]))
  have:=List.length_pos_of_mem hx;rw[List.length_cons];omega
theorem CK (n:Txt) (b:Nat):∀ l:List Fil,(pS l).Nodup->(∀ f∈l,f.data.length<=65536)->(∀ f∈l,f.name≠n->f.data.length<=b)->usedF l<=l.length*b+65536
 | [],_,_,_=>by simp[usedF]
 | x::l,h,h1,h2=>by
  have e:usedF (x::l)=x.data.length+usedF l:=by simp[usedF]
  have hn:=List.nodup_cons.1 h;rw[e,List.length_cons,Nat.add_mul];by_cases c:x.name=n
  ·have:=B9 l b fun y hy=>h2 y (by simp[hy]) fun e=>hn.1 (by
    rw[c,<- e];exact List.mem_map_of_mem hy)
   have:=h1 x (by simp)
   omega
  ·have:=CK n b l hn.2 (fun y hy=>h1 y (by simp[hy])) fun y hy=>h2 y (by simp[hy])
   have:=h2 x (by simp) c
   omega
theorem xw:∀ (M:List SR) (b e:Int),chainM b M e->M.length<=(aM M).length
 | [],_,_,_=>Nat.zero_le _
 | q::M,b,e,h=>by
  have:=xw M _ _ h.2.2;have e1:aM (q::M)=q.2++aM M:=rfl;have:=h.2.1;rw[e1,zA,List.length_cons];omega
theorem WR.segs_le {R:List Rec} (h:WR f S l0 s R):1<=s.segs.length∧s.segs.length<=R.length+1:=by
 obtain⟨M,g,l,h,rfl⟩:=h;have:=xw M _ _ h.inv.chain;rw[h.inv.segs,cK,eZ,zA,zA,zM,List.length_singleton];omega
theorem Lr {l:List Fil} (hs:srt l) {x:Fil} (hx:x∈l):fm l x.name=some (x.data,x.sure):=by
 obtain⟨i,hi,rfl⟩:=zJ hx;rw[(qc hs hi).1,cU]
theorem WR.few {R:List Rec} (ho:okS k u s) (h:WR f S l0 s R) (hd:s.disk.down=false) (hR:R.length<=40) (hv:s.ver<=300000):okS 70 300000 s:=by
 have hsl:=h.segs_le;obtain⟨M,g,l,h,rfl⟩:=h;have hs:=ho.dsk.srt;have hmt:=ma h.right;have hrec:∀ p∈M++[(g,l)],p.2.length<=40:=fun p hp=>by
  obtain⟨A,B,e⟩:=List.append_of_mem hp;rw[e] at hR;have e2:aM (A++p::B)=aM A++(p.2++aM B):=by rw[cK];rfl
  rw[e2,zA,zA] at hR;omega
 have hrow:∀ p∈M++[(g,l)],(rowS p.2).length<=3280:=fun p hp=>by
  have:=KE (h.inv.file p hp).why;have:=hrec p hp;omega
 have hat:∀ a∈s.segs,∃ p∈M++[(g,l)],p.1=a:=fun a ha=>by
  rw[h.inv.segs] at ha;rcases zX.1 ha with ha|ha
  ·obtain⟨p,hp,rfl⟩:=List.mem_map.1 ha;exact⟨p,by simp[hp],rfl⟩
  ·rw[zV.1 ha];exact⟨(g,l),by simp,rfl⟩
 have hS:0<f->S.length<=65536:=fun hf=>by
  rcases h.snp with h1|⟨_,_,_,h4,_⟩
  ·omega
  ·have hz:=Iu h.right;have e:s.man.size=s.size:=rfl;rw[e] at hz;rcases hz with hz|hz <;> omega
 have hrel:∀ x∈s.disk.files,rel f s x.name:=fun x hx=>h.only hd _ (by rw[Lr hs hx];simp)
 have hdat:∀ x∈s.disk.files,x.data.length<=65536∧(x.name≠aH f->x.data.length<=3280):=fun x hx=>by
  have hfx:=Lr hs hx;rcases hrel x hx with e|⟨a,ha,e⟩|⟨hf,e⟩
  ·rw[e,h.man] at hfx;have h2:cA s.man=x.data:=congrArg Prod.fst (Option.some.inj hfx);have h3:(cA s.man).length<=3280:=by
    have:=lw s.man;unfold bF at this;rw[if_pos h.right] at this;exact Nat.le_trans this (by decide)
   rw[h2] at h3;exact⟨by omega,fun _=>h3⟩
  ·obtain⟨p,hp,rfl⟩:=hat a ha;obtain⟨q,hq⟩:=(lA hs _ _).1 (h.inv.file p hp).has;rw[<- e,hfx] at hq;have h2:x.data=rowS p.2:=congrArg Prod.fst (Option.some.inj hq);have:=hrow p hp;rw[<- h2] at this;exact⟨by omega,fun _=>this⟩
  ·rcases h.snp with h1|⟨_,h2,_⟩
   ·omega
   ·rw[e,h2] at hfx;have h3:S=x.data:=congrArg Prod.fst (Option.some.inj hfx);rw[<- h3];exact⟨hS hf,fun hn=>absurd e hn⟩
 have hlen:s.disk.files.length<=70:=by
  have:=xy (pS s.disk.files) ([109]::(s.segs.map (fun a=>fileN a.base)++[aH f])) (vo hs) fun n hn=>by
   obtain⟨x,hx,rfl⟩:=List.mem_map.1 hn;rcases hrel x hx with e|⟨a,ha,e⟩|⟨hf,e⟩
   ·rw[e];simp
   ·rw[e];exact List.mem_cons_of_mem _ (List.mem_append_left _ (List.mem_map_of_mem ha))
   ·rw[e];simp
  have e:(pS s.disk.files).length=s.disk.files.length:=by simp[pS]
  rw[e,List.length_cons,zA,zM,List.length_singleton] at this;omega
 refine⟨⟨hlen,hs,ho.dsk.left,ho.dsk.cap,?_⟩,ho.len,fun a ha=>?_,ho.next,⟨ho.ver.1,by omega⟩,ho.sum⟩
 ·have:=CK (aH f) 3280 s.disk.files (vo hs) (fun x hx=>(hdat x hx).1) fun x hx=>(hdat x hx).2
  omega
 ·obtain⟨p,hp,rfl⟩:=hat a ha;have hf:=h.inv.file p hp;have h1:=hrec p hp;have h2:=hrow p hp;refine⟨(ho.seg _ ha).1,?_,?_⟩
  ·rw[hf.n];omega
  ·rw[hf.size];omega
def hE (l:List Rec):List D:=[.l (l.map Rec.enc)]
theorem F8 (l:List Rec):(hE l).length=1:=Eq.trans rfl rfl
def frst (l:List Rec):Int:=(l.headD ⟨0,0,[]⟩).at_
def FE (f:Rec->Nat):List Rec->Nat
 | []=>0
 | r::l=>f r+FE f l
def fu (l:List Rec):Nat:=FE gv l
def bytH:List (List Rec)->Nat
 | []=>0
 | l::h=>fu l+bytH h
structure okB (l:List Rec):Prop where
 len:1<=l.length∧l.length<=100
 at_:0<=frst l∧frst l<=1099511627776
 ok:∀ r∈l,r.ok
structure okH (h:List (List Rec)):Prop where
 len:h.length<=1000
 all:∀ l∈h,okB l
 srt:h.Pairwise fun a b=>frst a<frst b
theorem ow:∀ l:List Rec,fu l<=82*l.length
 | []=>by simp[fu,FE]
 | r::l=>by
  have:=ow l;have:=yM (r:=r);have e:fu (r::l)=gv r+fu l:=rfl;rw[e,List.length_cons];omega
theorem vp (l:List Rec) (i:Nat) (h:i<l.length):fu (l.drop i)=gv l[i]+fu (l.drop (i+1)):=by rw[zD h];rfl
theorem oE:∀ h:List (List Rec),(∀ l∈h,okB l)->bytH h<=8200*h.length
 | [],_=>by simp[bytH]
 | l::h,hh=>by
  have:=oE h fun x hx=>hh x (by simp[hx])
  have:=ow l;have:=(hh l (by simp)).len
  simp only[bytH,List.length_cons];omega
theorem uV (h:List (List Rec)) (i:Nat) (hi:i<h.length):bytH (h.drop i)=fu h[i]+bytH (h.drop (i+1)):=by rw[zD hi];rfl
theorem q9 (l:List Rec) (hl:l.length<=1000) (hr:∀ r∈l,r.ok):call 69 [vl (l.map Rec.enc)] []=some (vi (fu l:Nat),[]):=by
 have hb:=ow l;apply ae Uq rfl;refine bC ?_ Sq.eq_1 @zM;refine ax (m:=0) (σ:=Nat × Nat) (fun t=>l.length-t.1) (fun t=>t.1<=l.length∧t.2+fu (l.drop t.1)=fu l) (fun t=>[vi t.2,vl (l.map Rec.enc),vi l.length,vi t.1]) (fun _=>[]) (fun _=>(vi (fu l:Nat),[])) ?_ (0,0) ⟨zP _,by simp⟩ _ _ bO
 rintro⟨i,n⟩ ⟨h1,h2⟩ R hR;simp only at h1 h2 ⊢;by_cases c:i<l.length
 ·have hc:(i:Int)<(l.length:Int):=by omega
  have g1:(l.map Rec.enc)[i]?=some l[i].enc:=by rw[zG,zE c];rfl
  rw[vp l i c] at h2;have q:=wn l[i] (hr _ (zN c));have hK:=hR (i+1,n+gv l[i]) (by simp only[];omega) ⟨by simp only[];omega,by simp only[];omega⟩
  clear hR;generalize l[i]=r at *;obtain⟨a,b,d⟩:=r;simp only[Rec.enc,List.map_cons,List.map_nil] at g1 q;have e:((n+gv ⟨a,b,d⟩:Nat):Int)=(n:Int)+(gv ⟨a,b,d⟩:Nat):=by omega
  simp only[e] at hK;generalize gv ⟨a,b,d⟩=z at *;refine bC ?_ Iw.eq_1 (zT hc) g1 q;exact hK _ _ bO
 ·have hc:¬ (i:Int)<(l.length:Int):=by omega
  rw[zC (by omega)] at h2
  have h3:n=fu l:=by simpa[fu,FE] using h2
  rw[h3];refine bC ?_ Iw.eq_1 Sq.eq_1 (zF hc);try simp[trim]
theorem rj (h:List (List Rec)) (hh:okH h):call 45 [vl (h.map hE)] []=some (vi (bytH h:Nat),[]):=by
 have hb:=oE h hh.all;have hl:=hh.len;apply ae T5 rfl;refine bC ?_ SF.eq_1 @zM;refine ax (m:=0) (σ:=Nat × Nat) (fun t=>h.length-t.1) (fun t=>t.1<=h.length∧t.2+bytH (h.drop t.1)=bytH h) (fun t=>[vi t.2,vl (h.map hE),vi h.length,vi t.1]) (fun _=>[]) (fun _=>(vi (bytH h:Nat),[])) ?_ (0,0) ⟨zP _,by simp⟩ _ _ bO
 rintro⟨i,n⟩ ⟨h1,h2⟩ R hR;simp only at h1 h2 ⊢;by_cases c:i<h.length
 ·have hc:(i:Int)<(h.length:Int):=by omega
  have g1:(h.map hE)[i]?=some [.l (h[i].map Rec.enc)]:=by rw[zG,zE c];rfl
  rw[uV h i c] at h2;have ho:=hh.all _ (zN c);have hlo:=ho.len;have q:=q9 h[i] (by omega) ho.ok
  have hK:=hR (i+1,n+fu h[i]) (by simp only[];omega) ⟨by simp only[];omega,by simp only[];omega⟩
  clear hR;have e:((n+fu h[i]:Nat):Int)=(n:Int)+(fu h[i]:Nat):=by omega
  simp only[e] at hK;generalize fu h[i]=z at *;generalize h[i].map Rec.enc=Q at *;refine bC ?_ Hs.eq_1 (zT hc) g1 q;exact hK _ _ bO
 ·have hc:¬ (i:Int)<(h.length:Int):=by omega
  rw[zC (by omega)] at h2
  have h3:n=bytH h:=by simpa[bytH] using h2
  rw[h3];refine bC ?_ Hs.eq_1 SF.eq_1 (zF hc);try simp[trim]
def du (h:List (List Rec)) (off:Int):Nat:=h.countP fun l=>decide (frst l<off)
def wq (h:List (List Rec)) (off:Int):Bool:=match h[du h off]? with|some l=>decide (frst l=off)|none=>false
theorem xO {h:List (List Rec)} (hs:h.Pairwise fun a b=>frst a<frst b) (off:Int) (i:Nat) (hi:i<h.length):frst h[i]<off↔i<du h off:=by
 have:=px (fun l:List Rec=>decide (frst l<off)) h (hs.imp (fun hab hb=>by simp at hb ⊢;omega)) i hi
 simpa[du] using this
theorem w9 (h:List (List Rec)) (off:Int):du h off<=h.length:=List.countP_le_length
def pM (h:List (List Rec)) (off:Int):V:=.tup [(false,[zI (du h off:Nat)]),(false,[zB (wq h off)])]
theorem na {l:List Rec} (h:1<=l.length):∃ r:Rec,(l.map Rec.enc)[0]?=some [.i .i64 (frst l),.i .i64 r.ti,.s r.da]:=by
 cases l with
 | nil=>simp at h
 | cons r l=>exact⟨r,rfl⟩
theorem LB (l:List Rec) (h:okB l) (off:Int) (ho:0<=off∧off<=1099511627776) (H:Hp):ak call 81 [vl (l.map Rec.enc),vi off] H=some (vi (frst l-off),H) :=
 callIso_pure rfl (by
  obtain⟨r,g1⟩:=na h.len.1;have ha:=h.at_;have hl:0<(l.map Rec.enc).length:=by have:=h.len.1;simp;omega
  apply ae Uz rfl;refine aX ?_ S5.eq_1 g1 hl;try simp[trim]) rfl
theorem Is (h:List (List Rec)) (hh:okH h) (off:Int) (ho:0<=off∧off<=1099511627776):call 80 [vl (h.map hE),vi off,.one (.f 81 [])] []=some (pM h off,[]):=by
 apply ae UK rfl;have hl:=hh.len;obtain⟨Z,hZ⟩:∃ Z:V × Hp,Z=(pM h off,[]):=⟨_,rfl⟩;rw[<- hZ];refine aX ?_ Ti.eq_1;refine ax (m:=0) (σ:=Nat × Nat) (fun t=>t.2-t.1) (fun t=>t.1<=du h off∧du h off<=t.2∧t.2<=h.length) (fun t=>[vl (h.map hE),vi off,.one (.f 81 []),vi h.length,vi t.1,vi t.2]) (fun t=>[])
  (fun t=>Z) ?_ (0,h.length) ⟨zP _,w9 h off,Nat.le_refl _⟩ _ _ bO
 rintro⟨lo,hi⟩ ⟨h1,h2,h3⟩ R hR;simp only at h1 h2 h3 ⊢;by_cases c:lo<hi
 ·have hm:=Jr lo hi;have hmid:(lo+hi) / 2<h.length:=by omega
  have hp:=xO hh.srt off _ hmid;have hob:=hh.all _ (zN hmid);obtain⟨mid,hmd⟩:∃ mid,mid=(lo+hi) / 2:=⟨_,rfl⟩;simp only[<- hmd] at hm hmid hp hob;have g1:(h.map hE)[mid]?=some [.l (h[mid].map Rec.enc)]:=by rw[zG,zE hmid];rfl
  have hc:=LB h[mid] hob off ho;by_cases c2:frst h[mid]<off
  ·have:=hp.1 c2;have hcn:frst h[mid]-off<0:=by omega
   (simp(disch:=first|decide|omega|(intros;exact aN rfl rfl)|simp only[am]) only[vm,↓yg,hm,g1,↓hc,hcn,go_sem,seval,aO])
   exact hR (mid+1,hi) (by simp only[];omega) ⟨by simp only[];omega,h2,h3⟩ _ _ bO
  ·have:¬ mid<du h off:=fun h=>c2 (hp.2 h)
   have hcn:¬ frst h[mid]-off<0:=by omega
   (simp(disch:=first|decide|omega|(intros;exact aN rfl rfl)|simp only[am]) only[vm,↓yg,hm,g1,↓hc,hcn,go_sem,seval,aO])
   exact hR (lo,mid) (by simp only[];omega) ⟨h1,by simp only[];omega,by simp only[];omega⟩ _ _ bO
 ·have hlo:lo=du h off:=by omega
  subst hlo;by_cases c0:du h off<h.length
  ·have g1:(h.map hE)[du h off]?=some [.l (h[du h off].map Rec.enc)]:=by rw[zG,zE c0];rfl
   have hhas:wq h off=decide (frst h[du h off]=off):=by unfold wq;rw[zE c0]
   have hc:=LB h[du h off] (hh.all _ (zN c0)) off ho;by_cases c3:frst h[du h off]=off
   ·have hcz:frst h[du h off]-off=0:=by omega
    (simp(disch:=first|decide|omega|(intros;exact aN rfl rfl)|simp only[am]) only[vm,c,c0,g1,↓hc,hcz,go_sem,seval,aO])
    rw[hZ];simp[pM,hhas,c3]
   ·have hcz:¬ frst h[du h off]-off=0:=by omega
    (simp(disch:=first|decide|omega|(intros;exact aN rfl rfl)|simp only[am]) only[vm,c,c0,g1,↓hc,hcz,go_sem,seval,aO])
    rw[hZ];simp[pM,hhas,c3]
  ·have hhas:wq h off=false:=by unfold wq;rw[List.getElem?_eq_none (by omega)]
   refine aX ?_ vm.eq_1 c c0;rw[hZ];simp[pM,hhas]
def E4 (h:List (List Rec)) (l:List Rec) (next most bytes:Int):List (List Rec) :=
 if l.length=0∨frst l<=next∨most<=(h.length:Int)∨wq h (frst l)=true∨bytes<(bytH h:Int)+(fu l:Nat) then h else h.take (du h (frst l))++l::h.drop (du h (frst l))
theorem G0 (h:List (List Rec)) (hh:okH h) (l:List Rec) (hl:l.length=0∨okB l) (next most bytes:Int):call 61 [vl (h.map hE),vl (l.map Rec.enc),vi next,vi most,vi bytes] []=some (vl ((E4 h l next most bytes).map hE),[]):=by
 unfold E4;have hlen:=hh.len;apply ae Uh rfl;by_cases c1:l.length=0
 ·rw[if_pos (.inl c1)];refine bC ?_ L6.eq_1 c1 @zM;try simp[trim]
 ·have hb:=hl.resolve_left c1;obtain⟨r,g1⟩:=na hb.len.1;have c1':¬ ((l.length:Nat):Int)=0:=by omega
  have c1n:0<l.length:=by omega
  by_cases c2:frst l<=next
  ·rw[if_pos (.inr (.inl c2))];refine bC ?_ L6.eq_1 (eq_false c1') g1 (zT c2) @zM;try simp[trim]
  ·by_cases c3:most<=(h.length:Int)
   ·rw[if_pos (.inr (.inr (.inl c3)))];refine bC ?_ L6.eq_1 (eq_false c1') g1 (zF c2) (zT c3) @zM;try simp[trim]
   ·have q:=Is h hh (frst l) hb.at_;have hpl:=w9 h (frst l);unfold pM at q;by_cases c4:wq h (frst l)=true
    ·rw[if_pos (.inr (.inr (.inr (.inl c4))))];rw[c4] at q;have q:=fun H:Hp=>callIso_pure (H:=H) rfl q rfl
     refine bC ?_ L6.eq_1 (eq_false c1') g1 (zF c2) (zF c3) q @zM;try simp[trim]
    ·have c4':wq h (frst l)=false:=by simpa using c4
     rw[c4'] at q;have q:=fun H:Hp=>callIso_pure (H:=H) rfl q rfl
     have q2:=rj h hh;have q3:=q9 l (by have:=hb.len;omega) hb.ok
     have hbl:=oE h hh.all;have hwl:=ow l;have hll:=hb.len;by_cases c5:bytes<(bytH h:Int)+(fu l:Nat)
     ·rw[if_pos (.inr (.inr (.inr (.inr c5))))];refine bC ?_ L6.eq_1 (eq_false c1') g1 (zF c2) (zF c3) q q2 q3 (zT c5) @zM;try simp[trim]
     ·rw[if_neg (by simp[c1,c2,c3,c4',c5])]
      have hcl:=TG (h.map hE) (aV F8 _) (by simp;omega) (by simp;omega)
      have hi0:=vZ (l:=lib) (an:=rE Gw) (P:=Tryz.prog) (f:=82) (k:=1) (bytes:=24) rfl rfl (h.map hE) (hE l) (du h (frst l)) 0 rfl (by simpa using hpl) (by simp;omega) (by simp;omega)
      have em:(h.map hE).take (du h (frst l))++hE l::(h.map hE).drop (du h (frst l))=(h.take (du h (frst l))++l::h.drop (du h (frst l))).map hE:=by simp
      rw[em,zM] at hi0;have hln:(h.take (du h (frst l))++l::h.drop (du h (frst l))).length=h.length+1:=by simp;omega
      generalize h.take (du h (frst l))++l::h.drop (du h (frst l))=G at *;have htk:(G.map hE).take (h.length+1)=G.map hE:=zL (by simp;omega)
      have hi:∀ B:Box,ak call 82 [.one (.sl 1 1 0 h.length),vi (du h (frst l):Nat),.one (.sl 2 1 0 1)] [B,.arr 1 (h.map hE) 0,.arr 1 [[.l (l.map Rec.enc)]] 0]=some (.one (.sl 3 1 0 (h.length+1)),[B,.dead,.arr 1 [[.l (l.map Rec.enc)]] 0,.arr 1 (G.map hE) 0]):=fun B =>
       aD (ids:=[1,2]) rfl rfl rfl hi0 rfl
      (simp(disch:=first|decide|omega|(intros;exact aN rfl rfl)|simp only[am]) only[gu,L6,eq_false c1',g1,zF c2,zF c3,q,q2,q3,zF c5,↓hcl,↓hi,zM,htk,hln,go_sem,seval,aO])
def gp:List (List Rec)->Int->List Rec->List Rec × List (List Rec)
 | [],_,out=>(out,[])
 | l::h,next,out=>if next<frst l then(out,l::h) else if next<frst l+(l.length:Nat) then gp h (frst l+(l.length:Nat)) (out++l.drop (next-frst l).toNat) else gp h next out
theorem Az (h:List (List Rec)) (i:Nat) (hi:i<h.length) (next:Int) (out:List Rec):gp (h.drop i) next out=if next<frst h[i] then(out,h.drop i) else if next<frst h[i]+(h[i].length:Nat) then gp (h.drop (i+1)) (frst h[i]+(h[i].length:Nat)) (out++h[i].drop (next-frst h[i]).toNat) else gp (h.drop (i+1)) next out:=by
 rw[zD hi];rfl
theorem D0 (h:List (List Rec)) (hh:okH h) (next:Int) (hn:0<=next∧next<=1099511627776):call 62 [vl (h.map hE),vi next] []=some (.tup [(false,[.d (.l ((gp h next []).1.map Rec.enc))]),(false,[.d (.l ((gp h next []).2.map hE))])],[]):=by
 have hl:=hh.len;obtain⟨Z,hZ⟩:∃ Z,Z=gp h next []:=⟨_,rfl⟩;rw[<- hZ];apply ae Um rfl;refine bC ?_ RU.eq_1 @zM;refine ax (m:=0) (σ:=Nat × Int × List Rec) (fun t=>h.length-t.1) (fun t=>t.1<=h.length∧(0<=t.2.1∧t.2.1<=1099511627776+100)∧t.2.2.length<=100*t.1∧Z=gp (h.drop t.1) t.2.1 t.2.2) (fun t=>[vl (h.map hE),vi t.2.1,V.one (.sl 0 3 0 t.2.2.length),vl (h.map hE),vi h.length,vi t.1]) (fun t=>[.arr 3 (t.2.2.map Rec.enc) 0])
  (fun _=>((.tup [(false,[.d (.l (Z.1.map Rec.enc))]),(false,[.d (.l (Z.2.map hE))])],[]):V × Hp)) ?_ (0,next,[]) ⟨zP _,by simp only[];omega,by simp,by simpa using hZ⟩ _ _ ?_
 rotate_left
 ·exact bO
 rintro⟨i,nx,out⟩ ⟨h1,h2,h3,h4⟩ R hR;simp only at h1 h2 h3 h4 ⊢;have hol:(out.map Rec.enc).length=out.length:=by simp
 have hot:List.take out.length (out.map Rec.enc)=out.map Rec.enc:=zL (by simp)
 by_cases c:i<h.length
 ·have hc:(i:Int)<(h.length:Int):=by omega
  have g1:(h.map hE)[i]?=some [.l (h[i].map Rec.enc)]:=by rw[zG,zE c];rfl
  rw[Az h i c] at h4;have hob:=hh.all _ (zN c);have hbl:=hob.len;have hba:=hob.at_;obtain⟨r,g2⟩:=na hob.len.1;have hpos:0<(h[i].map Rec.enc).length:=by simp;omega
  have hokr:aQ 1 (h.map hE)=true:=aV F8 _;have hdr:List.drop i (h.map hE)=(h.drop i).map hE:=by rw[List.map_drop]
  have hdl:((h.drop i).map hE).length<=1000:=by simp;omega
  have hlm:(h[i].map Rec.enc).length=h[i].length:=by simp
  by_cases c1:nx<frst h[i]
  ·rw[if_pos c1] at h4;clear hR;rw[h4];generalize h[i]=l at *;refine bC ?_ yJ.eq_1 (zT hc) g1 hpos g2 (zT c1) hokr hdr hol hot @zM;try simp[trim]
  ·rw[if_neg c1] at h4;by_cases c2:nx<frst h[i]+(h[i].length:Nat)
   ·rw[if_pos c2] at h4;have hK:=hR (i+1,frst h[i]+(h[i].length:Nat),out++h[i].drop (nx-frst h[i]).toNat) (by simp only[];omega) ⟨by simp only[];omega,by simp only[];omega,by simp only[zA,zH];omega,h4⟩
    clear hR;have hdrop:List.drop (nx-frst h[i]).toNat (h[i].map Rec.enc)=(h[i].drop (nx-frst h[i]).toNat).map Rec.enc:=by rw[List.map_drop]
    simp only[List.map_append,zA] at hK;have hdl2:(h[i].drop (nx-frst h[i]).toNat).length<=100:=by simp;omega
    have hok3:aQ 3 (h[i].map Rec.enc)=true:=aV Rec.len _;have hok4:aQ 3 ((h[i].drop (nx-frst h[i]).toNat).map Rec.enc)=true:=aV Rec.len _;have hs0:0<=nx-frst h[i]:=by omega
    have hs1:nx-frst h[i]<=(h[i].length:Nat):=by omega
    generalize h[i].drop (nx-frst h[i]).toNat=y at *;generalize h[i]=l at *;refine bC ?_ yJ.eq_1 (zT hc) g1 hpos g2 (zF c1) (zT c2) hlm hok3 hdrop hol (And.intro hok4 @zM);exact hK _ _ bO
   ·rw[if_neg c2] at h4;have hK:=hR (i+1,nx,out) (by simp only[];omega) ⟨by simp only[];omega,by simp only[];omega,by simp only[];omega,h4⟩
    clear hR;generalize h[i]=l at *;refine bC ?_ yJ.eq_1 (zT hc) g1 hpos g2 (zF c1) (zF c2) hlm @zM;exact hK _ _ bO
 ·have hc:¬ (i:Int)<(h.length:Int):=by omega
  rw[zC (by omega)] at h4
  rw[h4];simp only[gp];refine bC ?_ yJ.eq_1 RU.eq_1 (zF hc) hol hot;try simp[trim]
theorem F6 (d:Dsk) (hd:d.ok) (n:Txt):call 110 [.agg d.l,.one (.p 0 0)] [.cells [zS n]]=some (aP (aj d (bm d.files n)),[.cells [zS n]]):=by
 have h:=jA d hd n;generalize aj d (bm d.files n)=q at *;obtain⟨⟨fl,cp,ar,lf,dn⟩,qe⟩:=q;obtain⟨fl0,cp0,ar0,lf0,dn0⟩:=d;simp only[aP,Dsk.l] at h ⊢;apply ae Rz rfl;refine bC ?_ OM.eq_1 h;try simp[zR]
theorem Ir (d:Dsk) (hd:d.ok) (n:Txt):call 114 [.agg d.l,.one (.p 0 0)] [.cells [zS n]]=some (aP (aj d (ct d.files n)),[.cells [zS n]]):=by
 have h:=ne d hd n;generalize aj d (ct d.files n)=q at *;obtain⟨⟨fl,cp,ar,lf,dn⟩,qe⟩:=q;obtain⟨fl0,cp0,ar0,lf0,dn0⟩:=d;simp only[aP,Dsk.l] at h ⊢;apply ae Si rfl;refine bC ?_ PD.eq_1 h;try simp[zR]
theorem HV (d:Dsk) (hd:d.ok) (n x:Txt) (hx:x.length<=1000000000000):call 113 [.agg d.l,.one (.p 0 0),.one (.p 1 0)] [.cells [zS n],.cells [zS x]]=some (aP (aj d (bK d.files d.cap n x)),[.cells [zS n],.cells [zS x]]):=by
 have h:=jP d hd n x hx;generalize aj d (bK d.files d.cap n x)=q at *;obtain⟨⟨fl,cp,ar,lf,dn⟩,qe⟩:=q;obtain⟨fl0,cp0,ar0,lf0,dn0⟩:=d;simp only[aP,Dsk.l] at h ⊢;apply ae R5 rfl;refine bC ?_ Py.eq_1 h;try simp[zR]
theorem Hj {k u:Nat} (d:Dsk) (hd:okN k u d) (hk:k<=900000) (hu:u<=900000000000) (X:Sto) (hl:X.segs.length<=1000000) (hm:X.man.ok):call 115 [.agg d.l,.one (.p 0 0)] [.cells [.d (.l (X.disk.files.map Fil.enc)),zI X.disk.cap,zB X.disk.armed,zI X.disk.left,zB X.disk.down,zI X.ver,.cl (X.segs.map Seg.enc),zI X.next,zI X.sure,zI X.size,zW X.sum]]=some (aP (bT X.man (d,0)),[.cells [.d (.l (X.disk.files.map Fil.enc)),zI X.disk.cap,zB X.disk.armed,zI X.disk.left,zB X.disk.down,zI X.ver,.cl (X.segs.map Seg.enc),zI X.next,zI X.sure,zI X.size,zW X.sum]]):=by
 have q1:=tU X hl;have q2:=tT d hd hk hu X.man hm;have hml:X.man.l=[zI X.ver,.d (.l ((X.segs.map Seg.base).map eI)),zI X.size,zW X.sum]:=rfl;generalize bT X.man (d,0)=q at *;obtain⟨⟨fl,cp,ar,lf,dn⟩,qe⟩:=q;obtain⟨fl0,cp0,ar0,lf0,dn0⟩:=d;have hX:X.l=[.d (.l (X.disk.files.map Fil.enc)),zI X.disk.cap,zB X.disk.armed,zI X.disk.left,zB X.disk.down,zI X.ver,.d (.l (X.segs.map Seg.enc)),zI X.next,zI X.sure,zI X.size,zW X.sum]:=rfl;rw[hX,hml] at q1;rw[hml] at q2;simp only[aP,Dsk.l] at q2 ⊢;apply ae Ru rfl;refine dm ?_ PO.eq_1 q1 q2;try simp[zR]
theorem Im (n:Txt) (d:Dsk) (e:Int):cO n (d,e)=if e=9 then(if(aj d (bP d.files n)).2=0 then((aj d (bP d.files n)).1,9) else aj d (bP d.files n)) else(d,e):=by
 have e1:dF n (d,0)=aj d (bP d.files n):=bv _ _;unfold cO;simp only[e1];split <;> simp_all
theorem DF {k u:Nat} (d:Dsk) (hd:okN k u d) (hk:k<=800000) (hu:u<=800000000000) (n x:Txt) (hx:x.length<=1000000):call 152 [.agg d.l,.one (.p 0 0),.one (.p 3 0)] [.cells [.f 113 [1,2]],.cells [zS n],.cells [zS x],.cells [zS n]]=some (aP (cO n (fO n x (d,0))),[.cells [.f 113 [1,2]],.cells [zS n],.cells [zS x],.cells [zS n]]):=by
 have h0:=HV d (hd.ok (by omega) (by omega)) n x (by omega)
 have kk:=iY (s:=(d,0)) hd n x;have ea:fO n x (d,0)=aj d (bK d.files d.cap n x):=bv _ _;rw[ea] at kk ⊢;generalize aj d (bK d.files d.cap n x)=q at *;obtain⟨q1,qe⟩:=q;have h1:=f7 q1 (kk.ok (by omega) (by omega)) n
 rw[Im];generalize aj q1 (bP q1.files n)=r at *;obtain⟨⟨rfl_,rcp,rar,rlf,rdn⟩,re⟩:=r;obtain⟨fl,cp,ar,lf,dn⟩:=q1;obtain⟨fl0,cp0,ar0,lf0,dn0⟩:=d;simp only[aP,Dsk.l] at h0 h1 ⊢;have h2:∀ a b c e,ak call 113 [.agg [.d (.l (fl0.map Fil.enc)),zI cp0,zB ar0,zI lf0,zB dn0],.one (.p 1 0),.one (.p 2 0)] [a,.cells [zS n],.cells [zS x],b,c,e]=some (.tup [(true,[.d (.l (fl.map Fil.enc)),zI cp,zB ar,zI lf,zB dn]),(false,[zI qe])],[a,.cells [zS n],.cells [zS x],b,c,e]):=fun a b c e =>
  aD (ids:=[1,2]) rfl rfl rfl h0 rfl
 apply ae PK rfl;by_cases c:qe=9
 ·subst c;rw[if_pos rfl];by_cases c2:re=0
  ·subst c2;rw[if_pos rfl];refine bC ?_ A2.eq_1 h2 h1;try simp[zR]
  ·rw[if_neg c2];refine bC ?_ A2.eq_1 h2 h1 c2;try simp[zR,c2]
 ·rw[if_neg c];refine bC ?_ A2.eq_1 h2 h1 c;try simp[zR,c]
theorem Eg {k u:Nat} (d:Dsk) (hd:okN k u d) (hk:k<=800000) (hu:u<=800000000000) (n:Txt) (X:Sto) (hl:X.segs.length<=1000000) (hm:X.man.ok):call 152 [.agg d.l,.one (.p 0 0),.one (.p 2 0)] [.cells [.f 115 [1]],.cells [.d (.l (X.disk.files.map Fil.enc)),zI X.disk.cap,zB X.disk.armed,zI X.disk.left,zB X.disk.down,zI X.ver,.cl (X.segs.map Seg.enc),zI X.next,zI X.sure,zI X.size,zW X.sum],.cells [zS n]]=some (aP (cO n (bT X.man (d,0))),[.cells [.f 115 [1]],.cells [.d (.l (X.disk.files.map Fil.enc)),zI X.disk.cap,zB X.disk.armed,zI X.disk.left,zB X.disk.down,zI X.ver,.cl (X.segs.map Seg.enc),zI X.next,zI X.sure,zI X.size,zW X.sum],.cells [zS n]]):=by
 have h0:=Hj d hd (by omega) (by omega) X hl hm
 have kk:=ii (s:=(d,0)) hd X.man;generalize bT X.man (d,0)=q at *;obtain⟨q1,qe⟩:=q;have h1:=f7 q1 (kk.ok (by omega) (by omega)) n
 rw[Im];generalize aj q1 (bP q1.files n)=r at *;obtain⟨⟨rfl_,rcp,rar,rlf,rdn⟩,re⟩:=r;obtain⟨fl,cp,ar,lf,dn⟩:=q1;obtain⟨fl0,cp0,ar0,lf0,dn0⟩:=d;simp only[aP,Dsk.l] at h0 h1 ⊢;have h2:∀ a b c e,ak call 115 [.agg [.d (.l (fl0.map Fil.enc)),zI cp0,zB ar0,zI lf0,zB dn0],.one (.p 1 0)] [a,.cells [.d (.l (X.disk.files.map Fil.enc)),zI X.disk.cap,zB X.disk.armed,zI X.disk.left,zB X.disk.down,zI X.ver,.cl (X.segs.map Seg.enc),zI X.next,zI X.sure,zI X.size,zW X.sum],b,c,e]=some (.tup [(true,[.d (.l (fl.map Fil.enc)),zI cp,zB ar,zI lf,zB dn]),(false,[zI qe])],[a,.cells [.d (.l (X.disk.files.map Fil.enc)),zI X.disk.cap,zB X.disk.armed,zI X.disk.left,zB X.disk.down,zI X.ver,.cl (X.segs.map Seg.enc),zI X.next,zI X.sure,zI X.size,zW X.sum],b,c,e]):=fun a b c e =>
  aD (ids:=[1]) rfl rfl rfl h0 rfl
 apply ae PK rfl;by_cases c:qe=9
 ·subst c;rw[if_pos rfl];by_cases c2:re=0
  ·subst c2;rw[if_pos rfl];refine bC ?_ A2.eq_1 h2 h1;try simp[zR]
  ·rw[if_neg c2];refine bC ?_ A2.eq_1 h2 h1 c2;try simp[zR,c2]
 ·rw[if_neg c];refine bC ?_ A2.eq_1 h2 h1 c;try simp[zR,c]
theorem AP (d:Dsk) (hd:d.ok) (n:Txt):call 154 [.agg d.l,.one (.ip [.s n])] []=some (aP (aj d (bP d.files n)),[]):=by
 have h:=f7 d hd n;generalize aj d (bP d.files n)=q at *;obtain⟨⟨fl,cp,ar,lf,dn⟩,qe⟩:=q;obtain⟨fl0,cp0,ar0,lf0,dn0⟩:=d;simp only[aP,Dsk.l] at h ⊢;apply ae QM rfl;refine bC ?_ PW.eq_1 h;try simp[trim]
theorem va (n:Txt):call 118 [vs n] []=some (.one (.f 154 [0]),[.cells [zS n]]):=by
 apply ae R0 rfl;have htr:∀ H:Hp,trim 0 (.one (.f 154 [0])) H=(.one (.f 154 [0]),H):=fun H=>by simp[trim,V.refs,L.refs]
 (simp(disch:=first|decide|omega|(intros;exact aN rfl rfl)|simp only[am]) only[gu,Qd,↓htr,go_sem,seval,aO])
end Go.Proofs.YtgoifbjgmgbihaaGreat
