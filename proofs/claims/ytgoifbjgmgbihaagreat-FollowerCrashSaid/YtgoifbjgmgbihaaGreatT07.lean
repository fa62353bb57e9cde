import Derived.Test.YtgoifbjgmgbihaaGreatT06
import Derived.Test.YtgoifbjgmgbihaaGreatVid
import Derived.Test.YtgoifbjgmgbihaaGreatT02
import Derived.Test.YtgoifbjgmgbihaaGreatT05
set_option linter.unusedSimpArgs false
set_option linter.unusedVariables false
set_option maxRecDepth 20000
set_option maxHeartbeats 16000000
namespace Go.Proofs.YtgoifbjgmgbihaaGreat
open Go.Vi
def Ah:List Txt->Dsk->Dsk × Int
 | [],d=>(d,0)
 | n::l,d=>if(ai d (bN d.files n)).2=0 then Ah l (ai d (bN d.files n)).1 else ai d (bN d.files n)
theorem zh (d:Dsk) (hd:d.ok) (n:Txt):call 158 [.agg d.l,.one (.ip [.s n])] []=some (aK (ai d (bN d.files n)),[]):=by
 have h:=gB d hd n;generalize ai d (bN d.files n)=q at *;obtain⟨⟨fl,cp,ar,lf,dn⟩,qe⟩:=q;obtain⟨fl0,cp0,ar0,lf0,dn0⟩:=d;simp only[aK,Dsk.l] at h ⊢;apply ae UG rfl;refine bh ?_ QU.eq_1 h;try simp[trim]
def A9 (n:Txt):List D:=[.fn 158 [[.s n]],.l []]
theorem KO {k u:Nat} (d:Dsk) (hd:okN k u d) (hk:k<=900000) (hu:u<=900000000000) (l:List Txt) (hl:l.length<=1000):call 122 [.agg d.l,vl (l.map A9)] []=some (aK (Ah l d),[]):=by
 obtain⟨Z,hZ⟩:∃ Z,Z=Ah l d:=⟨_,rfl⟩;rw[<- hZ];obtain⟨⟨zfl,zcp,zar,zlf,zdn⟩,ze⟩:=Z;simp only[aK,Dsk.l];apply ae Sw rfl;obtain⟨dfl,dcp,dar,dlf,ddn⟩:=d;refine bh ?_ Jy.eq_1;refine aq (m:=0) (σ:=Nat × Dsk) (fun t=>l.length-t.1) (fun t=>t.1<=l.length∧okN k u t.2∧Ah (l.drop t.1) t.2=(⟨zfl,zcp,zar,zlf,zdn⟩,ze)) (fun t=>[V.one (.p 0 0),V.one (.p 1 0),vl (l.map A9),vi l.length,vi t.1])
  (fun t=>[.cells [.d (.l (t.2.files.map Fil.enc)),zI t.2.cap,zB t.2.armed,zI t.2.left,zB t.2.down],.cells [.ns,zI 0,zB false,zI 0,zB false]])
  (fun _=>(V.tup [(true,[.d (.l (zfl.map Fil.enc)),zI zcp,zB zar,zI zlf,zB zdn]),(false,[zI ze])],[])) ?_ (0,⟨dfl,dcp,dar,dlf,ddn⟩) ⟨zP _,hd,hZ.symm⟩ _ _ ?_
 rotate_left
 ·exact bA
 rintro⟨i,⟨fl,cp,ar,lf,dn⟩⟩ ⟨h1,h2,h3⟩ R hR;simp only at h1 h2 h3 ⊢;by_cases c:i<l.length
 ·have hc:(i:Int)<(l.length:Int):=by omega
  rw[zD c,Ah] at h3;have g1:(l.map A9)[i]?=some [.fn 158 [[.s l[i]]],.l []]:=by rw[zG,zE c];rfl
  generalize l[i]=n at *;have g2:=zh ⟨fl,cp,ar,lf,dn⟩ (h2.ok (by omega) (by omega)) n
  have kk:=dX (s:=(⟨fl,cp,ar,lf,dn⟩,0)) h2 n;rw[show dH n (⟨fl,cp,ar,lf,dn⟩,0)=ai ⟨fl,cp,ar,lf,dn⟩ (bN fl n) from bD _ _] at kk
  simp only at g2 h3;generalize ai ⟨fl,cp,ar,lf,dn⟩ (bN fl n)=q at *;have hb0:=jF q.1 kk hk hu [] (by decide)
  obtain⟨⟨qfl,qcp,qar,qlf,qdn⟩,qe⟩:=q;simp only[aK,Dsk.l,List.map_nil,di] at g2 h3 hb0;have g3:∀ H:Hp,ak call 158 [.agg [.d (.l (fl.map Fil.enc)),zI cp,zB ar,zI lf,zB dn],.one (.ip [.s n])] H=some (V.tup [(true,[.d (.l (qfl.map Fil.enc)),zI qcp,zB qar,zI qlf,zB qdn]),(false,[zI qe])],H):=fun H=>callIso_pure rfl g2 rfl
  by_cases c2:qe=0
  ·subst c2;rw[if_pos rfl] at h3;have hR':=hR (i+1,⟨qfl,qcp,qar,qlf,qdn⟩) (by simp only[];omega) ⟨by simp only[];omega,kk,h3⟩
   refine cm ?_ dS.eq_1 (zT hc) g1 g3;exact hR' _ _ bA
  ·rw[if_neg c2] at h3;cases h3;by_cases c9:ze=9
   ·subst c9;refine cm ?_ dS.eq_1 (zT hc) g1 g3 hb0;try simp[trim,c2]
   ·refine cm ?_ dS.eq_1 (zT hc) g1 g3 c2 c9;try simp[trim,c2]
 ·have hc:¬ (i:Int)<(l.length:Int):=by omega
  rw[zC (by omega),Ah] at h3
  cases h3;refine cm ?_ dS.eq_1 Jy.eq_1 (zF hc);try simp[trim]
theorem sS (n:Txt):call 128 [vs n] []=some (.agg [.f 158 [0],.ns],[.cells [zS n],.cells [.f 158 [0],.ns]]):=by
 apply ae UH rfl;have htr:∀ H:Hp,trim 0 (.agg [.f 158 [0],.ns]) H=(.agg [.f 158 [0],.ns],H):=fun H=>by simp[trim,V.refs,L.refs]
 (simp(disch:=first|decide|omega|(intros;exact aP rfl rfl)|simp only[am]) only[fU,SW,↓htr,go_sem,seval,aO])
theorem My (d:Dsk) (hd:d.ok) (n:Txt):call 123 [.agg d.l,.one (.p 0 0)] [.cells [zS n]]=some (aK (ai d (bB d.files n)),[.cells [zS n]]):=by
 have h:=lc d hd n;generalize ai d (bB d.files n)=q at *;obtain⟨⟨fl,cp,ar,lf,dn⟩,qe⟩:=q;obtain⟨fl0,cp0,ar0,lf0,dn0⟩:=d;simp only[aK,Dsk.l] at h ⊢;apply ae Un rfl;refine bh ?_ SJ.eq_1 h;try simp[zR]
theorem LS (d:Dsk) (hd:d.ok) (n:Txt):call 126 [.agg d.l,.one (.p 0 0)] [.cells [zS n]]=some (aK (ai d (bB d.files n)),[.cells [zS n]]):=by
 have h:=lc d hd n;generalize ai d (bB d.files n)=q at *;obtain⟨⟨fl,cp,ar,lf,dn⟩,qe⟩:=q;obtain⟨fl0,cp0,ar0,lf0,dn0⟩:=d;simp only[aK,Dsk.l] at h ⊢;apply ae UB rfl;refine bh ?_ QI.eq_1 h;try simp[zR]
theorem Nx (d:Dsk) (hd:d.ok) (n:Txt):call 125 [.agg d.l,.one (.p 0 0)] [.cells [zS n]]=some (aK (ai d (ch d.files n)),[.cells [zS n]]):=by
 have h:=oa d hd n;generalize ai d (ch d.files n)=q at *;obtain⟨⟨fl,cp,ar,lf,dn⟩,qe⟩:=q;obtain⟨fl0,cp0,ar0,lf0,dn0⟩:=d;simp only[aK,Dsk.l] at h ⊢;apply ae Uw rfl;refine bh ?_ QS.eq_1 h;try simp[zR]
theorem M9 (d:Dsk) (hd:d.ok) (n x:Txt) (hx:x.length<=1000000000000):call 124 [.agg d.l,.one (.p 0 0),.one (.p 1 0)] [.cells [zS n],.cells [zS x]]=some (aK (ai d (bM d.files d.cap n x)),[.cells [zS n],.cells [zS x]]):=by
 have h:=kW d hd n x hx;generalize ai d (bM d.files d.cap n x)=q at *;obtain⟨⟨fl,cp,ar,lf,dn⟩,qe⟩:=q;obtain⟨fl0,cp0,ar0,lf0,dn0⟩:=d;simp only[aK,Dsk.l] at h ⊢;apply ae U6 rfl;refine bh ?_ SU.eq_1 h;try simp[zR]
def fZ (ver at_:Int) (x:Txt):Sto:=⟨⟨[],0,false,0,false⟩,ver,[⟨at_,0,0⟩],at_,at_,x.length,cE x⟩
def Ny (ver at_:Int) (x:Txt) (b:Nat):List L:=[.ns,zI 0,zB false,zI 0,zB false,zI ver,.sl b 3 0 1,zI at_,zI at_,zI x.length,zW (cE x)]
theorem ND (ver at_:Int) (x:Txt):(fZ ver at_ x).man.ok:=⟨by show 1<=1000000;decide,qG x⟩
theorem L3 {k u:Nat} (d:Dsk) (hd:okN k u d) (hk:k<=900000) (hu:u<=900000000000) (ver at_:Int) (x:Txt) (fz:Nat) (hfz:fz<=1):call 127 [.agg d.l,.one (.p 0 0)] [.cells (Ny ver at_ x 1),.arr 3 [[.i .i64 at_,.i .i64 0,.i .i64 0]] fz]=some (aK (bT (fZ ver at_ x).man (d,0)),[.cells (Ny ver at_ x 1),.arr 3 [[.i .i64 at_,.i .i64 0,.i .i64 0]] 1]):=by
 have q1:=vB (fZ ver at_ x) (by show 1<=1000000;decide)
 have q2:=vC d hd hk hu (fZ ver at_ x).man (ND ver at_ x);generalize bT (fZ ver at_ x).man (d,0)=q at *;obtain⟨⟨fl,cp,ar,lf,dn⟩,qe⟩:=q;obtain⟨fl0,cp0,ar0,lf0,dn0⟩:=d;have hm:max fz 1=1:=by omega
 simp only[aK,Dsk.l,fZ,Ny,Sto.l,Sto.man,Man.l,Seg.enc,List.map_cons,List.map_nil,List.cons_append,List.nil_append,eI] at q1 q2 ⊢;apply ae UM rfl;(simp(disch:=first|decide|omega|(intros;exact aP rfl rfl)|simp only[am]) only[fU,RU,↓yR,Qn,jh,ky,List.all_cons,List.all_nil,Bool.and_self,cond_true,cL,q1,q2,hm,go_sem,seval,aO,gL,A.kind,A.xs,co,A.isN])
 try simp[zR]
abbrev LR:=(Dsk × Int) × Nat × Nat × Nat
def u4 (n g:Txt) (m:Man) (d:Dsk):LR:=if(bT m (d,0)).2=9 then(di [g,n] (bT m (d,0)).1,0,1,2) else(bT m (d,0),0,1,0)
def u3 (n g:Txt) (m:Man) (d:Dsk):LR:=if(ai d (bB d.files g)).2≠0 then(ai d (bB d.files g),0,0,0) else u4 n g m (ai d (bB d.files g)).1
def u2 (n g:Txt) (m:Man) (d:Dsk):LR:=if(ai d (ch d.files n)).2≠0 then(ai d (ch d.files n),0,0,0) else u3 n g m (ai d (ch d.files n)).1
def u1 (n g x:Txt) (m:Man) (d:Dsk):LR:=if(ai d (bM d.files d.cap n x)).2=9 then(di [n] (ai d (bM d.files d.cap n x)).1,1,0,0) else if(ai d (bM d.files d.cap n x)).2≠0 then(ai d (bM d.files d.cap n x),0,0,0) else u2 n g m (ai d (bM d.files d.cap n x)).1
def u0 (n g x:Txt) (m:Man) (d:Dsk):LR:=if(ai d (bB d.files n)).2≠0 then(ai d (bB d.files n),0,0,0) else u1 n g x m (ai d (bB d.files n)).1
def uT (n g x:Txt) (m:Man):Nat->Dsk->LR
 | 0,d=>u0 n g x m d
 | 1,d=>u1 n g x m d
 | 2,d=>u2 n g m d
 | 3,d=>u3 n g m d
 | 4,d=>u4 n g m d
 | _,d=>((d,0),0,1,0)
def HI (n g x:Txt) (ver at_:Int) (f1 f2 f3:Nat):Hp:=[.cells [.f 123 [1],.ns,.f 124 [1,2],.sl 3 1 0 1,.f 125 [1],.ns,.f 126 [4],.ns,.f 127 [5],.sl 7 1 0 2],.cells [zS n],.cells [zS x],.arr 1 [[.s n]] f1,.cells [zS g],.cells [.ns,zI 0,zB false,zI 0,zB false,zI ver,.sl 6 3 0 1,zI at_,zI at_,zI x.length,zW (cE x)],.arr 3 [[.i .i64 at_,.i .i64 0,.i .i64 0]] f2,.arr 1 [[.s g],[.s n]] f3]
theorem GA {k u:Nat} (d:Dsk) (hd:okN k u d) (hk:k<=800000) (hu:u<=800000000000) (n g x:Txt) (hx:x.length<=20000) (ver at_:Int) :
  call 122 [.agg d.l,.one (.sp 0 5)] (HI n g x ver at_ 0 0 0)=some (aK (u0 n g x (fZ ver at_ x).man d).1,HI n g x ver at_ (u0 n g x (fZ ver at_ x).man d).2.1 (u0 n g x (fZ ver at_ x).man d).2.2.1 (u0 n g x (fZ ver at_ x).man d).2.2.2):=by
 obtain⟨Z,hZ⟩:∃ Z,Z=uT n g x (fZ ver at_ x).man 0 d:=⟨_,rfl⟩;have hZ0:u0 n g x (fZ ver at_ x).man d=Z:=hZ.symm;rw[hZ0];clear hZ0;obtain⟨⟨⟨zfl,zcp,zar,zlf,zdn⟩,ze⟩,F1,F2,F3⟩:=Z;simp only[aK,Dsk.l,HI];apply ae Sw rfl;obtain⟨dfl,dcp,dar,dlf,ddn⟩:=d;refine bh ?_ Jy.eq_1;refine aq (m:=8) (σ:=Nat × Dsk) (fun t=>5-t.1) (fun t=>t.1<=5∧okN (k+2*t.1) (u+30000*t.1) t.2∧uT n g x (fZ ver at_ x).man t.1 t.2=((⟨zfl,zcp,zar,zlf,zdn⟩,ze),F1,F2,F3)) (fun t=>[V.one (.p 8 0),V.one (.p 9 0),V.one (.sp 0 5),vi 5,vi t.1])
  (fun t=>[.cells [.f 123 [1],.ns,.f 124 [1,2],.sl 3 1 0 1,.f 125 [1],.ns,.f 126 [4],.ns,.f 127 [5],.sl 7 1 0 2],.cells [zS n],.cells [zS x],.arr 1 [[.s n]] 0,.cells [zS g],.cells [.ns,zI 0,zB false,zI 0,zB false,zI ver,.sl 6 3 0 1,zI at_,zI at_,zI x.length,zW (cE x)],.arr 3 [[.i .i64 at_,.i .i64 0,.i .i64 0]] (if t.1=5 then 1 else 0),.arr 1 [[.s g],[.s n]] 0,.cells [.d (.l (t.2.files.map Fil.enc)),zI t.2.cap,zB t.2.armed,zI t.2.left,zB t.2.down],.cells [.ns,zI 0,zB false,zI 0,zB false]])
  (fun _=>(V.tup [(true,[.d (.l (zfl.map Fil.enc)),zI zcp,zB zar,zI zlf,zB zdn]),(false,[zI ze])],([.cells [.f 123 [1],.ns,.f 124 [1,2],.sl 3 1 0 1,.f 125 [1],.ns,.f 126 [4],.ns,.f 127 [5],.sl 7 1 0 2],.cells [zS n],.cells [zS x],.arr 1 [[.s n]] F1,.cells [zS g],.cells [.ns,zI 0,zB false,zI 0,zB false,zI ver,.sl 6 3 0 1,zI at_,zI at_,zI x.length,zW (cE x)],.arr 3 [[.i .i64 at_,.i .i64 0,.i .i64 0]] F2,.arr 1 [[.s g],[.s n]] F3]:Hp))) ?_ (0,⟨dfl,dcp,dar,dlf,ddn⟩) ⟨zP _,hd,hZ.symm⟩ _ _ ?_
 rotate_left
 ·exact bA
 rintro⟨i,⟨fl,cp,ar,lf,dn⟩⟩ ⟨h1,h2,h3⟩ R hR;simp only at h1 h2 h3 ⊢;have hok:=h2.ok (by omega) (by omega)
 rcases(by omega:i=0∨i=1∨i=2∨i=3∨i=4∨i=5) with rfl|rfl|rfl|rfl|rfl|rfl
 ·have q1:=My ⟨fl,cp,ar,lf,dn⟩ hok n;have kk:=fG (s:=(⟨fl,cp,ar,lf,dn⟩,0)) h2 n;rw[show bR n (⟨fl,cp,ar,lf,dn⟩,0)=ai ⟨fl,cp,ar,lf,dn⟩ (bB fl n) from bD _ _] at kk
  simp only[uT,u0] at h3;simp only at q1;generalize ai ⟨fl,cp,ar,lf,dn⟩ (bB fl n)=q at *;have hb:=jF q.1 kk (by omega) (by omega) [] (by simp)
  have kq:=kk.up (k':=k+2*(0+1)) (u':=u+30000*(0+1)) (by omega) (by omega)
  generalize hbt:di [] q.1=bt at *;obtain⟨⟨qfl,qcp,qar,qlf,qdn⟩,qe⟩:=q;obtain⟨⟨bfl,bcp,bar,blf,bdn⟩,be⟩:=bt;simp only[aK,Dsk.l,List.map_cons,List.map_nil,eS] at q1 hb h3;have g1:ak call 123 [.agg [.d (.l (fl.map Fil.enc)),zI cp,zB ar,zI lf,zB dn],.one (.p 1 0)] [.cells [.f 123 [1],.ns,.f 124 [1,2],.sl 3 1 0 1,.f 125 [1],.ns,.f 126 [4],.ns,.f 127 [5],.sl 7 1 0 2],.cells [zS n],.cells [zS x],.arr 1 [[.s n]] 0,.cells [zS g],.cells [.ns,zI 0,zB false,zI 0,zB false,zI ver,.sl 6 3 0 1,zI at_,zI at_,zI x.length,zW (cE x)],.arr 3 [[.i .i64 at_,.i .i64 0,.i .i64 0]] 0,.arr 1 [[.s g],[.s n]] 0,.cells [.d (.l (fl.map Fil.enc)),zI cp,zB ar,zI lf,zB dn],.cells [.ns,zI 0,zB false,zI 0,zB false],.cells [.f 123 [1],.ns]]=some (V.tup [(true,[.d (.l (qfl.map Fil.enc)),zI qcp,zB qar,zI qlf,zB qdn]),(false,[zI qe])],[.cells [.f 123 [1],.ns,.f 124 [1,2],.sl 3 1 0 1,.f 125 [1],.ns,.f 126 [4],.ns,.f 127 [5],.sl 7 1 0 2],.cells [zS n],.cells [zS x],.arr 1 [[.s n]] 0,.cells [zS g],.cells [.ns,zI 0,zB false,zI 0,zB false,zI ver,.sl 6 3 0 1,zI at_,zI at_,zI x.length,zW (cE x)],.arr 3 [[.i .i64 at_,.i .i64 0,.i .i64 0]] 0,.arr 1 [[.s g],[.s n]] 0,.cells [.d (.l (fl.map Fil.enc)),zI cp,zB ar,zI lf,zB dn],.cells [.ns,zI 0,zB false,zI 0,zB false],.cells [.f 123 [1],.ns]]):=aF (ids:=[1]) rfl rfl rfl q1 rfl;by_cases c2:qe=0
  ·subst c2;rw[if_neg (by simp)] at h3
   have hR':=hR (0+1,⟨qfl,qcp,qar,qlf,qdn⟩) (by simp only[];omega) ⟨by simp only[];omega,kq,h3⟩
   refine cm ?_ dS.eq_1 g1;exact hR' _ _ bA
  ·rw[if_pos c2] at h3;cases h3;have hbt2:(⟨⟨bfl,bcp,bar,blf,bdn⟩,be⟩:Dsk × Int)=(⟨zfl,zcp,zar,zlf,zdn⟩,9):=hbt.symm;cases hbt2;by_cases c9:ze=9
   ·subst c9;refine cm ?_ dS.eq_1 g1 hb;try simp[zR]
   ·refine cm ?_ dS.eq_1 g1 c2 c9;try simp[zR]
 ·have q1:=M9 ⟨fl,cp,ar,lf,dn⟩ hok n x (by omega)
  have kk:=jM (s:=(⟨fl,cp,ar,lf,dn⟩,0)) h2 n x;rw[show fL n x (⟨fl,cp,ar,lf,dn⟩,0)=ai ⟨fl,cp,ar,lf,dn⟩ (bM fl cp n x) from bD _ _] at kk
  simp only[uT,u1] at h3;simp only at q1;generalize ai ⟨fl,cp,ar,lf,dn⟩ (bM fl cp n x)=q at *;have hb:=jF q.1 kk (by omega) (by omega) [n] (by simp)
  have kq:=kk.up (k':=k+2*(1+1)) (u':=u+30000*(1+1)) (by omega) (by omega)
  generalize hbt:di [n] q.1=bt at *;obtain⟨⟨qfl,qcp,qar,qlf,qdn⟩,qe⟩:=q;obtain⟨⟨bfl,bcp,bar,blf,bdn⟩,be⟩:=bt;simp only[aK,Dsk.l,List.map_cons,List.map_nil,eS] at q1 hb h3;have g1:ak call 124 [.agg [.d (.l (fl.map Fil.enc)),zI cp,zB ar,zI lf,zB dn],.one (.p 1 0),.one (.p 2 0)] [.cells [.f 123 [1],.ns,.f 124 [1,2],.sl 3 1 0 1,.f 125 [1],.ns,.f 126 [4],.ns,.f 127 [5],.sl 7 1 0 2],.cells [zS n],.cells [zS x],.arr 1 [[.s n]] 0,.cells [zS g],.cells [.ns,zI 0,zB false,zI 0,zB false,zI ver,.sl 6 3 0 1,zI at_,zI at_,zI x.length,zW (cE x)],.arr 3 [[.i .i64 at_,.i .i64 0,.i .i64 0]] 0,.arr 1 [[.s g],[.s n]] 0,.cells [.d (.l (fl.map Fil.enc)),zI cp,zB ar,zI lf,zB dn],.cells [.ns,zI 0,zB false,zI 0,zB false],.cells [.f 124 [1,2],.sl 3 1 0 1]]=some (V.tup [(true,[.d (.l (qfl.map Fil.enc)),zI qcp,zB qar,zI qlf,zB qdn]),(false,[zI qe])],[.cells [.f 123 [1],.ns,.f 124 [1,2],.sl 3 1 0 1,.f 125 [1],.ns,.f 126 [4],.ns,.f 127 [5],.sl 7 1 0 2],.cells [zS n],.cells [zS x],.arr 1 [[.s n]] 0,.cells [zS g],.cells [.ns,zI 0,zB false,zI 0,zB false,zI ver,.sl 6 3 0 1,zI at_,zI at_,zI x.length,zW (cE x)],.arr 3 [[.i .i64 at_,.i .i64 0,.i .i64 0]] 0,.arr 1 [[.s g],[.s n]] 0,.cells [.d (.l (fl.map Fil.enc)),zI cp,zB ar,zI lf,zB dn],.cells [.ns,zI 0,zB false,zI 0,zB false],.cells [.f 124 [1,2],.sl 3 1 0 1]]):=aF (ids:=[1,2]) rfl rfl rfl q1 rfl;by_cases c2:qe=0
  ·subst c2;rw[if_neg (by decide),if_neg (by simp)] at h3
   have hR':=hR (1+1,⟨qfl,qcp,qar,qlf,qdn⟩) (by simp only[];omega) ⟨by simp only[];omega,kq,h3⟩
   refine cm ?_ dS.eq_1 g1;exact hR' _ _ bA
  ·by_cases c9:qe=9
   ·subst c9;rw[if_pos rfl] at h3;cases h3;refine cm ?_ dS.eq_1 g1 hb;try simp[zR]
   ·rw[if_neg c9,if_pos c2] at h3;cases h3;refine cm ?_ dS.eq_1 g1 c2 c9;try simp[zR]
 ·have q1:=Nx ⟨fl,cp,ar,lf,dn⟩ hok n;have kk:=lw (s:=(⟨fl,cp,ar,lf,dn⟩,0)) h2 n;rw[show fi n (⟨fl,cp,ar,lf,dn⟩,0)=ai ⟨fl,cp,ar,lf,dn⟩ (ch fl n) from bD _ _] at kk
  simp only[uT,u2] at h3;simp only at q1;generalize ai ⟨fl,cp,ar,lf,dn⟩ (ch fl n)=q at *;have hb:=jF q.1 kk (by omega) (by omega) [] (by simp)
  have kq:=kk.up (k':=k+2*(2+1)) (u':=u+30000*(2+1)) (by omega) (by omega)
  generalize hbt:di [] q.1=bt at *;obtain⟨⟨qfl,qcp,qar,qlf,qdn⟩,qe⟩:=q;obtain⟨⟨bfl,bcp,bar,blf,bdn⟩,be⟩:=bt;simp only[aK,Dsk.l,List.map_cons,List.map_nil,eS] at q1 hb h3;have g1:ak call 125 [.agg [.d (.l (fl.map Fil.enc)),zI cp,zB ar,zI lf,zB dn],.one (.p 1 0)] [.cells [.f 123 [1],.ns,.f 124 [1,2],.sl 3 1 0 1,.f 125 [1],.ns,.f 126 [4],.ns,.f 127 [5],.sl 7 1 0 2],.cells [zS n],.cells [zS x],.arr 1 [[.s n]] 0,.cells [zS g],.cells [.ns,zI 0,zB false,zI 0,zB false,zI ver,.sl 6 3 0 1,zI at_,zI at_,zI x.length,zW (cE x)],.arr 3 [[.i .i64 at_,.i .i64 0,.i .i64 0]] 0,.arr 1 [[.s g],[.s n]] 0,.cells [.d (.l (fl.map Fil.enc)),zI cp,zB ar,zI lf,zB dn],.cells [.ns,zI 0,zB false,zI 0,zB false],.cells [.f 125 [1],.ns]]=some (V.tup [(true,[.d (.l (qfl.map Fil.enc)),zI qcp,zB qar,zI qlf,zB qdn]),(false,[zI qe])],[.cells [.f 123 [1],.ns,.f 124 [1,2],.sl 3 1 0 1,.f 125 [1],.ns,.f 126 [4],.ns,.f 127 [5],.sl 7 1 0 2],.cells [zS n],.cells [zS x],.arr 1 [[.s n]] 0,.cells [zS g],.cells [.ns,zI 0,zB false,zI 0,zB false,zI ver,.sl 6 3 0 1,zI at_,zI at_,zI x.length,zW (cE x)],.arr 3 [[.i .i64 at_,.i .i64 0,.i .i64 0]] 0,.arr 1 [[.s g],[.s n]] 0,.cells [.d (.l (fl.map Fil.enc)),zI cp,zB ar,zI lf,zB dn],.cells [.ns,zI 0,zB false,zI 0,zB false],.cells [.f 125 [1],.ns]]):=aF (ids:=[1]) rfl rfl rfl q1 rfl;by_cases c2:qe=0
  ·subst c2;rw[if_neg (by simp)] at h3
   have hR':=hR (2+1,⟨qfl,qcp,qar,qlf,qdn⟩) (by simp only[];omega) ⟨by simp only[];omega,kq,h3⟩
   refine cm ?_ dS.eq_1 g1;exact hR' _ _ bA
  ·rw[if_pos c2] at h3;cases h3;have hbt2:(⟨⟨bfl,bcp,bar,blf,bdn⟩,be⟩:Dsk × Int)=(⟨zfl,zcp,zar,zlf,zdn⟩,9):=hbt.symm;cases hbt2;by_cases c9:ze=9
   ·subst c9;refine cm ?_ dS.eq_1 g1 hb;try simp[zR]
   ·refine cm ?_ dS.eq_1 g1 c2 c9;try simp[zR]
 ·have q1:=LS ⟨fl,cp,ar,lf,dn⟩ hok g;have kk:=fG (s:=(⟨fl,cp,ar,lf,dn⟩,0)) h2 g;rw[show bR g (⟨fl,cp,ar,lf,dn⟩,0)=ai ⟨fl,cp,ar,lf,dn⟩ (bB fl g) from bD _ _] at kk
  simp only[uT,u3] at h3;simp only at q1;generalize ai ⟨fl,cp,ar,lf,dn⟩ (bB fl g)=q at *;have hb:=jF q.1 kk (by omega) (by omega) [] (by simp)
  have kq:=kk.up (k':=k+2*(3+1)) (u':=u+30000*(3+1)) (by omega) (by omega)
  generalize hbt:di [] q.1=bt at *;obtain⟨⟨qfl,qcp,qar,qlf,qdn⟩,qe⟩:=q;obtain⟨⟨bfl,bcp,bar,blf,bdn⟩,be⟩:=bt;simp only[aK,Dsk.l,List.map_cons,List.map_nil,eS] at q1 hb h3;have g1:ak call 126 [.agg [.d (.l (fl.map Fil.enc)),zI cp,zB ar,zI lf,zB dn],.one (.p 4 0)] [.cells [.f 123 [1],.ns,.f 124 [1,2],.sl 3 1 0 1,.f 125 [1],.ns,.f 126 [4],.ns,.f 127 [5],.sl 7 1 0 2],.cells [zS n],.cells [zS x],.arr 1 [[.s n]] 0,.cells [zS g],.cells [.ns,zI 0,zB false,zI 0,zB false,zI ver,.sl 6 3 0 1,zI at_,zI at_,zI x.length,zW (cE x)],.arr 3 [[.i .i64 at_,.i .i64 0,.i .i64 0]] 0,.arr 1 [[.s g],[.s n]] 0,.cells [.d (.l (fl.map Fil.enc)),zI cp,zB ar,zI lf,zB dn],.cells [.ns,zI 0,zB false,zI 0,zB false],.cells [.f 126 [4],.ns]]=some (V.tup [(true,[.d (.l (qfl.map Fil.enc)),zI qcp,zB qar,zI qlf,zB qdn]),(false,[zI qe])],[.cells [.f 123 [1],.ns,.f 124 [1,2],.sl 3 1 0 1,.f 125 [1],.ns,.f 126 [4],.ns,.f 127 [5],.sl 7 1 0 2],.cells [zS n],.cells [zS x],.arr 1 [[.s n]] 0,.cells [zS g],.cells [.ns,zI 0,zB false,zI 0,zB false,zI ver,.sl 6 3 0 1,zI at_,zI at_,zI x.length,zW (cE x)],.arr 3 [[.i .i64 at_,.i .i64 0,.i .i64 0]] 0,.arr 1 [[.s g],[.s n]] 0,.cells [.d (.l (fl.map Fil.enc)),zI cp,zB ar,zI lf,zB dn],.cells [.ns,zI 0,zB false,zI 0,zB false],.cells [.f 126 [4],.ns]]):=aF (ids:=[4]) rfl rfl rfl q1 rfl;by_cases c2:qe=0
  ·subst c2;rw[if_neg (by simp)] at h3
   have hR':=hR (3+1,⟨qfl,qcp,qar,qlf,qdn⟩) (by simp only[];omega) ⟨by simp only[];omega,kq,h3⟩
   refine cm ?_ dS.eq_1 g1;exact hR' _ _ bA
  ·rw[if_pos c2] at h3;cases h3;have hbt2:(⟨⟨bfl,bcp,bar,blf,bdn⟩,be⟩:Dsk × Int)=(⟨zfl,zcp,zar,zlf,zdn⟩,9):=hbt.symm;cases hbt2;by_cases c9:ze=9
   ·subst c9;refine cm ?_ dS.eq_1 g1 hb;try simp[zR]
   ·refine cm ?_ dS.eq_1 g1 c2 c9;try simp[zR]
 ·have q1:=L3 ⟨fl,cp,ar,lf,dn⟩ h2 (by omega) (by omega) ver at_ x 0 (by decide)
  have kk:=iS (s:=(⟨fl,cp,ar,lf,dn⟩,0)) h2 (fZ ver at_ x).man;simp only[uT,u4] at h3;simp only[Ny] at q1;generalize bT (fZ ver at_ x).man (⟨fl,cp,ar,lf,dn⟩,0)=q at *;have hb:=jF q.1 kk (by omega) (by omega) [g,n] (by simp)
  have kq:=kk.up (k':=k+2*(4+1)) (u':=u+30000*(4+1)) (by omega) (by omega)
  generalize hbt:di [g,n] q.1=bt at *;obtain⟨⟨qfl,qcp,qar,qlf,qdn⟩,qe⟩:=q;obtain⟨⟨bfl,bcp,bar,blf,bdn⟩,be⟩:=bt;simp only[aK,Dsk.l,List.map_cons,List.map_nil,eS] at q1 hb h3;have g1:ak call 127 [.agg [.d (.l (fl.map Fil.enc)),zI cp,zB ar,zI lf,zB dn],.one (.p 5 0)] [.cells [.f 123 [1],.ns,.f 124 [1,2],.sl 3 1 0 1,.f 125 [1],.ns,.f 126 [4],.ns,.f 127 [5],.sl 7 1 0 2],.cells [zS n],.cells [zS x],.arr 1 [[.s n]] 0,.cells [zS g],.cells [.ns,zI 0,zB false,zI 0,zB false,zI ver,.sl 6 3 0 1,zI at_,zI at_,zI x.length,zW (cE x)],.arr 3 [[.i .i64 at_,.i .i64 0,.i .i64 0]] 0,.arr 1 [[.s g],[.s n]] 0,.cells [.d (.l (fl.map Fil.enc)),zI cp,zB ar,zI lf,zB dn],.cells [.ns,zI 0,zB false,zI 0,zB false],.cells [.f 127 [5],.sl 7 1 0 2]]=some (V.tup [(true,[.d (.l (qfl.map Fil.enc)),zI qcp,zB qar,zI qlf,zB qdn]),(false,[zI qe])],[.cells [.f 123 [1],.ns,.f 124 [1,2],.sl 3 1 0 1,.f 125 [1],.ns,.f 126 [4],.ns,.f 127 [5],.sl 7 1 0 2],.cells [zS n],.cells [zS x],.arr 1 [[.s n]] 0,.cells [zS g],.cells [.ns,zI 0,zB false,zI 0,zB false,zI ver,.sl 6 3 0 1,zI at_,zI at_,zI x.length,zW (cE x)],.arr 3 [[.i .i64 at_,.i .i64 0,.i .i64 0]] 1,.arr 1 [[.s g],[.s n]] 0,.cells [.d (.l (fl.map Fil.enc)),zI cp,zB ar,zI lf,zB dn],.cells [.ns,zI 0,zB false,zI 0,zB false],.cells [.f 127 [5],.sl 7 1 0 2]]):=aF (ids:=[5,6]) rfl rfl rfl q1 rfl;by_cases c9:qe=9
  ·subst c9;rw[if_pos rfl] at h3;cases h3;refine cm ?_ dS.eq_1 g1 hb;try simp[zR]
  ·rw[if_neg c9] at h3;by_cases c2:qe=0
   ·subst c2;have hR':=hR (4+1,⟨qfl,qcp,qar,qlf,qdn⟩) (by simp only[];omega) ⟨by simp only[];omega,kq,by simp only[uT];exact h3⟩
    refine cm ?_ dS.eq_1 g1;exact hR' _ _ bA
   ·cases h3;refine cm ?_ dS.eq_1 g1 c2 c9;try simp[zR]
 ·simp only[uT] at h3;cases h3;refine cm ?_ dS.eq_1 Jy.eq_1;try simp[zR]
theorem rS (x:Txt) (hx:x.length<=1000000):call 64 [vl [[.s x]]] []=some (vk .u32 (cE x),[]):=by
 have h:=Bk [x] (by simp) (fun s hs=>by rw[zV.1 hs];omega)
 have e:uu [x]=cr 0#32 x:=rfl;rw[e] at h;exact h
def gm (s:Sto):List Txt:=s.segs.map (fun g=>fileN g.base)++(if 0<s.floor then[aC s.floor] else[])
def bw (s:Sto) (at_:Int) (x:Txt):Sto × Int :=
 if aU x=none∨at_<=s.next∨1099511627776<at_ then(s,1)
 else if(u0 (aC at_) (fileN at_) x (fZ (s.ver+1) at_ x).man s.disk).1.2≠0 then({ s with disk:=(u0 (aC at_) (fileN at_) x (fZ (s.ver+1) at_ x).man s.disk).1.1 },(u0 (aC at_) (fileN at_) x (fZ (s.ver+1) at_ x).man s.disk).1.2)
 else({ fZ (s.ver+1) at_ x with disk:=(Ah (gm s) (u0 (aC at_) (fileN at_) x (fZ (s.ver+1) at_ x).man s.disk).1.1).1 },(Ah (gm s) (u0 (aC at_) (fileN at_) x (fZ (s.ver+1) at_ x).man s.disk).1.1).2)
theorem N8 {k u:Nat} {d:Dsk} (h:okN k u d) {n g x:Txt} (hx:x.length<=20000) (hk:True) (hu:True) (m:Man):okN (k+3) (u+30000) (u0 n g x m d).1.1:=by
 have tT:∀ {k u:Nat} (l:List Txt) (d:Dsk),okN k u d->okN k u (di l d).1:=by
  intro k u l;induction l with
  | nil=>intro d h;exact h
  | cons a l ih =>
   intro d h;have:=dX (s:=(d,0)) h a;rw[show dH a (d,0)=ai d (bN d.files a) from bD _ _] at this
   simp only[di];split
   ·exact this
   ·exact ih _ this
 have h1:=fG (s:=(d,0)) h n;rw[show bR n (d,0)=ai d (bB d.files n) from bD _ _] at h1
 unfold u0;split
 ·exact h1.up (by omega) (by omega)
 generalize (ai d (bB d.files n)).1=d1 at *;have h2:=jM (s:=(d1,0)) h1 n x;rw[show fL n x (d1,0)=ai d1 (bM d1.files d1.cap n x) from bD _ _] at h2
 unfold u1;split
 ·exact(tT _ _ h2).up (by omega) (by omega)
 split
 ·exact h2.up (by omega) (by omega)
 generalize (ai d1 (bM d1.files d1.cap n x)).1=d2 at *;have h3:=lw (s:=(d2,0)) h2 n;rw[show fi n (d2,0)=ai d2 (ch d2.files n) from bD _ _] at h3
 unfold u2;split
 ·exact h3.up (by omega) (by omega)
 generalize (ai d2 (ch d2.files n)).1=d3 at *;have h4:=fG (s:=(d3,0)) h3 g;rw[show bR g (d3,0)=ai d3 (bB d3.files g) from bD _ _] at h4
 unfold u3;split
 ·exact h4.up (by omega) (by omega)
 generalize (ai d3 (bB d3.files g)).1=d4 at *;have h5:=iS (s:=(d4,0)) h4 m;unfold u4;split
 ·exact(tT _ _ h5).up (by omega) (by omega)
 ·exact h5.up (by omega) (by omega)
theorem Gt {k u:Nat} (s:Sto) (h:okS k u s) (hk:k<=700000) (hu:u<=1000000) (at_:Int) (hat : -9223372036854775808<=at_∧at_<9223372036854775808) (x:Txt) (hx:x.length<=20000):call 88 [.agg s.l,vi at_,vs x] []=some (cf (bw s at_ x),[]):=by
 have q1:=vy x (by omega)
 unfold bw;have hver:=h.ver;by_cases c0:aU x=none∨at_<=s.next∨1099511627776<at_
 ·rw[if_pos c0];obtain⟨⟨fl,cp,ar,lf,dn⟩,ver,segs,next,sure,size,sum⟩:=s;simp only[Sto.l,Dsk.l,cf,List.cons_append,List.nil_append] at c0 ⊢;apply ae VC rfl;cases hp:aU x with
  | none =>
   rw[hp] at q1;simp only[dp] at q1;refine bh ?_ N9.eq_1 q1;try simp[trim]
  | some l =>
   rw[hp] at q1;simp only[dp] at q1;rw[hp] at c0;by_cases c1:at_<=next
   ·refine bh ?_ N9.eq_1 q1 (zT c1);try simp[trim]
   ·have c2:1099511627776<at_:=by
     rcases c0 with h|h|h
     ·cases h
     ·exact absurd h c1
     ·exact h
    refine bh ?_ N9.eq_1 q1 (zF c1) (zT c2);try simp[trim]
 ·rw[if_neg c0];have hp:aU x≠none:=fun h=>c0 (Or.inl h)
  have c1:¬ at_<=s.next:=fun h=>c0 (Or.inr (Or.inl h))
  have c2:¬ 1099511627776<at_:=fun h=>c0 (Or.inr (Or.inr h))
  obtain⟨l,hl⟩:=Option.ne_none_iff_exists'.1 hp;rw[hl] at q1;simp only[dp] at q1;have hnx:=h.next;have q2:=nG (n:=at_) (by omega)
  have q3:=mC (n:=at_) (by omega)
  have q4:=rS x (by omega)
  have hs:=qG x;have qf:call 119 [.agg s.l] []=some (vi s.floor,[]):=oY s;have hfo:=fD h;have qn:=nG hfo;have hseg:=h.seg;have hsl:=h.len.2;have r1:=GA s.disk h.dsk (by omega) (by omega) (aC at_) (fileN at_) x hx (s.ver+1) at_
  have kr:okN (k+3) (u+30000) (u0 (aC at_) (fileN at_) x (fZ (s.ver+1) at_ x).man s.disk).1.1:=N8 h.dsk hx trivial trivial _;obtain⟨fl',hfl'⟩:∃ fl',fl'=s.floor:=⟨_,rfl⟩;have hnm:gm s=s.segs.map (fun g=>fileN g.base)++(if 0<fl' then[aC fl'] else[]):=by rw[hfl'];rfl
  rw[hnm];rw[<- hfl'] at qf hfo qn;clear hnm hfl';generalize u0 (aC at_) (fileN at_) x (fZ (s.ver+1) at_ x).man s.disk=r at *;obtain⟨⟨⟨efl,ecp,ear,elf,edn⟩,ee⟩,F1,F2,F3⟩:=r;obtain⟨⟨fl,cp,ar,lf,dn⟩,ver,segs,next,sure,size,sum⟩:=s;simp only[Sto.l,Dsk.l,cf,aK,List.cons_append,List.nil_append,HI] at c1 hver r1 qf kr hseg hsl ⊢;have g1:ak call 122 [.agg [.d (.l (fl.map Fil.enc)),zI cp,zB ar,zI lf,zB dn],.one (.sp 10 5)] [.cells [.d (.l (fl.map Fil.enc)),zI cp,zB ar,zI lf,zB dn,zI ver,.d (.l (segs.map Seg.enc)),zI next,zI sure,zI size,zW sum],.cells [zS x],.cells [.ns,zI 0,zB false,zI 0,zB false,zI 0,.ns,zI 0,zI 0,zI 0,zW 0],.arr 3 [[.i .i64 at_,.i .i64 0,.i .i64 0]] 0,.arr 1 [[.s x]] (max 0 1),.cells [.ns,zI 0,zB false,zI 0,zB false,zI (ver+1),.sl 3 3 0 1,zI at_,zI at_,zI x.length,zW (cE x)],.cells [zS (aC at_)],.cells [zS (fileN at_)],.arr 1 [[.s (aC at_)]] 0,.arr 1 [[.s (fileN at_)],[.s (aC at_)]] 0,.cells [.f 123 [6],.ns,.f 124 [6,1],.sl 8 1 0 1,.f 125 [6],.ns,.f 126 [7],.ns,.f 127 [5],.sl 9 1 0 2]]=some (V.tup [(true,[.d (.l (efl.map Fil.enc)),zI ecp,zB ear,zI elf,zB edn]),(false,[zI ee])],[.cells [.d (.l (fl.map Fil.enc)),zI cp,zB ar,zI lf,zB dn,zI ver,.d (.l (segs.map Seg.enc)),zI next,zI sure,zI size,zW sum],.cells [zS x],.cells [.ns,zI 0,zB false,zI 0,zB false,zI 0,.ns,zI 0,zI 0,zI 0,zW 0],.arr 3 [[.i .i64 at_,.i .i64 0,.i .i64 0]] F2,.arr 1 [[.s x]] (max 0 1),.cells [.ns,zI 0,zB false,zI 0,zB false,zI (ver+1),.sl 3 3 0 1,zI at_,zI at_,zI x.length,zW (cE x)],.cells [zS (aC at_)],.cells [zS (fileN at_)],.arr 1 [[.s (aC at_)]] F1,.arr 1 [[.s (fileN at_)],[.s (aC at_)]] F3,.cells [.f 123 [6],.ns,.f 124 [6,1],.sl 8 1 0 1,.f 125 [6],.ns,.f 126 [7],.ns,.f 127 [5],.sl 9 1 0 2]]):=aF (ids:=[10,6,1,8,7,5,3,9]) rfl rfl rfl r1 rfl;clear r1;generalize aC at_=SN at *;generalize fileN at_=SG at *;apply ae VC rfl;by_cases c3:ee=0
  ·subst c3;rw[if_neg (by simp)]
   obtain⟨FN,hFN⟩:∃ FN,FN=aC fl':=⟨_,rfl⟩;rw[<- hFN] at qn ⊢;clear hFN;obtain⟨NS,hNS⟩:∃ NS,NS=segs.map (fun g=>fileN g.base)++(if 0<fl' then[FN] else[]):=⟨_,rfl⟩
   rw[<- hNS];have hnl:NS.length<=1000:=by
    rw[hNS,zA,zM];split <;> simp <;> omega
   have r2:=KO ⟨efl,ecp,ear,elf,edn⟩ kr (by omega) (by omega) NS hnl
   generalize Ah NS ⟨efl,ecp,ear,elf,edn⟩=z at *;obtain⟨⟨zfl,zcp,zar,zlf,zdn⟩,ze⟩:=z;simp only[Dsk.l,aK,fZ,Sto.l,Seg.enc,List.map_cons,List.map_nil,List.cons_append,List.nil_append] at r2 ⊢;(simp(disch:=first|decide|omega|(intros;exact aP rfl rfl)|simp only[am]) only[fU,N9,q1,zF c1,zF c2,↓kV,fX,cL,q4,q2,q3,g1,go_sem,seval,aO,gL,A.kind,A.xs,co,A.isN])
   refine aq (m:=0) (σ:=Nat) (fun i=>segs.length-i) (fun i=>i<=segs.length) (fun i=>[V.one (.p 0 0),V.one (.p 1 0),V.one (.p 2 0),V.one (.p 4 0),V.one (.sl 5 2 0 (segs.take i).length),vl (segs.map Seg.enc),vi segs.length,vi i])
    (fun i=>[.cells [.d (.l (fl.map Fil.enc)),zI cp,zB ar,zI lf,zB dn,zI ver,.d (.l (segs.map Seg.enc)),zI next,zI sure,zI size,zW sum],.cells [.ns,zI 0,zB false,zI 0,zB false,zI 0,.ns,zI 0,zI 0,zI 0,zW 0],.cells [.ns,zI 0,zB false,zI 0,zB false,zI (ver+1),.sl 3 3 0 1,zI at_,zI at_,zI x.length,zW (cE x)],.arr 3 [[.i .i64 at_,.i .i64 0,.i .i64 0]] F2,.cells [.d (.l (efl.map Fil.enc)),zI ecp,zB ear,zI elf,zB edn],.arr 2 ((segs.take i).map (fun g=>A9 (fileN g.base))) 0])
    (fun _=>(V.tup [(true,[.d (.l (zfl.map Fil.enc)),zI zcp,zB zar,zI zlf,zB zdn,zI (ver+1),.d (.l [[.i .i64 at_,.i .i64 0,.i .i64 0]]),zI at_,zI at_,zI x.length,zW (cE x)]),(false,[zI ze])],([]:Hp))) ?_ 0 (zP _) _ _ ?_
   rotate_left
   ·exact bA
   clear g1 q1 q2 q3 q4;intro i hi R hR;by_cases c4:i<segs.length
   ·have hc4:(i:Int)<(segs.length:Int):=by omega
    have g1:(segs.map Seg.enc)[i]?=some [.i .i64 segs[i].base,.i .i64 segs[i].n,.i .i64 segs[i].size]:=by
     rw[zG,zE c4];rfl
    have g2:=mC (hseg _ (zN c4)).1;have hR':=hR (i+1) (by omega) (by omega)
    rw[zO c4,List.map_append,zA,List.map_cons,List.map_nil,List.length_cons,List.length_nil] at hR';have hrl:((segs.take i).map (fun g=>A9 (fileN g.base))).length=(segs.take i).length:=by simp
    have hrl2:(segs.take i).length<=64:=by rw[zQ];omega
    generalize hRQ:(segs.take i).map (fun g=>A9 (fileN g.base))=RQ at *
    generalize (segs.take i).length=RL at *;have g3:=sS (fileN segs[i].base);simp only[A9] at hR';generalize fileN segs[i].base=FB at *;generalize segs[i]=sg at *;obtain⟨sb,sn,sz⟩:=sg;simp only at g1 g2;have g4:ak call 128 [vs FB] [.cells [.d (.l (fl.map Fil.enc)),zI cp,zB ar,zI lf,zB dn,zI ver,.d (.l (segs.map Seg.enc)),zI next,zI sure,zI size,zW sum],.cells [.ns,zI 0,zB false,zI 0,zB false,zI 0,.ns,zI 0,zI 0,zI 0,zW 0],.cells [.ns,zI 0,zB false,zI 0,zB false,zI (ver+1),.sl 3 3 0 1,zI at_,zI at_,zI x.length,zW (cE x)],.arr 3 [[.i .i64 at_,.i .i64 0,.i .i64 0]] F2,.cells [.d (.l (efl.map Fil.enc)),zI ecp,zB ear,zI elf,zB edn],.arr 2 RQ 0,.cells [zI sb,zI sn,zI sz]] =
     some (.agg [.f 158 [7],.ns],[.cells [.d (.l (fl.map Fil.enc)),zI cp,zB ar,zI lf,zB dn,zI ver,.d (.l (segs.map Seg.enc)),zI next,zI sure,zI size,zW sum],.cells [.ns,zI 0,zB false,zI 0,zB false,zI 0,.ns,zI 0,zI 0,zI 0,zW 0],.cells [.ns,zI 0,zB false,zI 0,zB false,zI (ver+1),.sl 3 3 0 1,zI at_,zI at_,zI x.length,zW (cE x)],.arr 3 [[.i .i64 at_,.i .i64 0,.i .i64 0]] F2,.cells [.d (.l (efl.map Fil.enc)),zI ecp,zB ear,zI elf,zB edn],.arr 2 RQ 0,.cells [zI sb,zI sn,zI sz],.cells [zS FB],.cells [.f 158 [7],.ns]]):=aF (ids:=[]) rfl rfl rfl g3 rfl
    (simp(disch:=first|decide|omega|(intros;exact aP rfl rfl)|simp only[am]) only[fU,Et,zT hc4,g1,g2,g4,uU,nv,hrl,go_sem,seval,aO,gL,A.kind,A.xs,co,A.isN])
    exact hR' _ _ bA
   ·have hc4:¬ (i:Int)<(segs.length:Int):=by omega
    have htk:segs.take i=segs:=zL (by omega)
    rw[htk];have hnt:List.take NS.length (NS.map A9)=NS.map A9:=zL (by simp)
    by_cases c5:0<fl'
    ·rw[if_pos c5] at hNS;have hrl:(segs.map (fun g=>A9 (fileN g.base))).length=segs.length:=by simp
     have hrw:segs.map (fun g=>A9 (fileN g.base))++[[.fn 158 [[.s FN]],.l []]]=NS.map A9:=by rw[hNS];simp[A9]
     have hnl2:segs.length+1=NS.length:=by rw[hNS];simp
     have g3:=sS FN;generalize segs.map (fun g=>A9 (fileN g.base))=RQ at *
     have g4:ak call 128 [vs FN] [.cells [.d (.l (fl.map Fil.enc)),zI cp,zB ar,zI lf,zB dn,zI ver,.d (.l (segs.map Seg.enc)),zI next,zI sure,zI size,zW sum],.cells [.ns,zI 0,zB false,zI 0,zB false,zI 0,.ns,zI 0,zI 0,zI 0,zW 0],.cells [.ns,zI 0,zB false,zI 0,zB false,zI (ver+1),.sl 3 3 0 1,zI at_,zI at_,zI x.length,zW (cE x)],.arr 3 [[.i .i64 at_,.i .i64 0,.i .i64 0]] F2,.cells [.d (.l (efl.map Fil.enc)),zI ecp,zB ear,zI elf,zB edn],.arr 2 RQ 0] =
      some (.agg [.f 158 [6],.ns],[.cells [.d (.l (fl.map Fil.enc)),zI cp,zB ar,zI lf,zB dn,zI ver,.d (.l (segs.map Seg.enc)),zI next,zI sure,zI size,zW sum],.cells [.ns,zI 0,zB false,zI 0,zB false,zI 0,.ns,zI 0,zI 0,zI 0,zW 0],.cells [.ns,zI 0,zB false,zI 0,zB false,zI (ver+1),.sl 3 3 0 1,zI at_,zI at_,zI x.length,zW (cE x)],.arr 3 [[.i .i64 at_,.i .i64 0,.i .i64 0]] F2,.cells [.d (.l (efl.map Fil.enc)),zI ecp,zB ear,zI elf,zB edn],.arr 2 RQ 0,.cells [zS FN],.cells [.f 158 [6],.ns]]):=aF (ids:=[]) rfl rfl rfl g3 rfl
     (simp(disch:=first|decide|omega|(intros;exact aP rfl rfl)|simp only[am]) only[fU,Et,N9,zF hc4,qf,qn,zT c5,g4,uU,nv,hrl,hrw,hnl2,hnt,r2,go_sem,seval,aO,gL,A.kind,A.xs,co,A.isN])
     try simp[trim]
    ·rw[if_neg c5,List.append_nil] at hNS;have hrl:(segs.map (fun g=>A9 (fileN g.base))).length=segs.length:=by simp
     have hrw:segs.map (fun g=>A9 (fileN g.base))=NS.map A9:=by rw[hNS];simp
     have hnl2:segs.length=NS.length:=by rw[hNS];simp
     rw[hrw] at hrl ⊢;rw[show(.sl 5 2 0 segs.length:L)=.sl 5 2 0 NS.length by rw[hnl2]]
     refine cm ?_ Et.eq_1 N9.eq_1 (zF hc4) qf (zF c5) hnt r2;try simp[trim]
  ·rw[if_pos c3];(simp(disch:=first|decide|omega|(intros;exact aP rfl rfl)|simp only[am]) only[fU,N9,q1,zF c1,zF c2,↓kV,fX,cL,q4,q2,q3,g1,c3,go_sem,seval,aO,gL,A.kind,A.xs,co,A.isN])
   try simp[trim,c3]
theorem tT {k u:Nat}:∀ (l:List Txt) (d:Dsk),okN k u d->okN k u (di l d).1
 | [],d,h=>h
 | a::l,d,h=>by
  have:=dX (s:=(d,0)) h a;rw[show dH a (d,0)=ai d (bN d.files a) from bD _ _] at this
  simp only[di];split
  ·exact this
  ·exact tT l _ this
theorem En:∀ (l:List Txt) (d:Dsk),(di l d).2≠0
 | [],d=>by simp[di]
 | a::l,d=>by
  simp only[di];split
  ·assumption
  ·exact En l _
theorem JH {k u:Nat}:∀ (l:List Txt) (d:Dsk),okN k u d->okN k u (Ah l d).1
 | [],d,h=>h
 | a::l,d,h=>by
  have:=dX (s:=(d,0)) h a;rw[show dH a (d,0)=ai d (bN d.files a) from bD _ _] at this
  by_cases c:(ai d (bN d.files a)).2=0
  ·have e1:Ah (a::l) d=Ah l (ai d (bN d.files a)).1:=if_pos c;rw[e1];exact JH l _ this
  ·have e1:Ah (a::l) d=ai d (bN d.files a):=if_neg c;rw[e1];exact this
theorem L0 {k u:Nat} {s:Sto} (h:okS k u s) (at_:Int) {x:Txt} (hx:x.length<=20000):okS (k+3) (u+30000) (bw s at_ x).1:=by
 have h2:=h.up (k':=k+3) (u':=u+30000) (by omega) (by omega)
 have kr:okN (k+3) (u+30000) (u0 (aC at_) (fileN at_) x (fZ (s.ver+1) at_ x).man s.disk).1.1:=N8 h.dsk hx trivial trivial _;unfold bw;by_cases c0:aU x=none∨at_<=s.next∨1099511627776<at_
 ·rw[if_pos c0];exact h2
 ·rw[if_neg c0];have c1:¬ at_<=s.next:=fun h=>c0 (Or.inr (Or.inl h))
  have c2:¬ 1099511627776<at_:=fun h=>c0 (Or.inr (Or.inr h))
  have hn:=h.next;have hv:=h.ver;split
  ·exact⟨kr,h2.len,h2.seg,h2.next,h2.ver,h2.sum⟩
  ·refine⟨JH _ _ kr,by show 1<=1∧1<=64;omega,fun g hg=>?_,by show 0<=at_∧at_<=1099511627776;omega,by show 0<=s.ver+1∧s.ver+1<=((u+30000:Nat):Int);omega,qG x⟩
   have hg':g∈[(⟨at_,0,0⟩:Seg)]:=hg;rw[zV] at hg';subst hg';exact⟨by show 0<=at_∧at_<=1099511627776;omega,by show(0:Int)<=0∧(0:Int)<=((u+30000:Nat):Int);omega,by show(0:Int)<=0∧(0:Int)<=((u+30000:Nat):Int);omega⟩
def exW:Txt:=[1,97,1,49]
variable {k u:Nat} {f:Int} {S:Txt} {l0:List Pr} {s:Sto} {M:List SR} {g:Seg} {l:List Rec}
theorem Aj (G:FM):∀ (l:List Txt) (d:Dsk),srt d.files->l.Nodup->d.down=false->(∀ n∈l,fm d.files n≠none)->Out d (di l d) l G (some (B9 l (fm d.files)))
 | [],d,hs,_,hd,_=>⟨Dk.refl d,hs,.inr (.inl ⟨_,rfl,rfl,hd,by funext k;simp[B9,di]⟩)⟩
 | n::l,d,hs,hn,hd,h=>by
  have hn:=List.nodup_cons.1 hn;obtain⟨v,hv⟩:=Option.ne_none_iff_exists'.1 (h n (by simp))
  have h1:=yQ hs hv;have e2:di (n::l) d=if(ai d (bN d.files n)).2=0 then di l (ai d (bN d.files n)).1 else ai d (bN d.files n):=by
   rw[di];by_cases c:(ai d (bN d.files n)).2=0
   ·rw[if_neg (by simp[c]),if_pos c]
   ·rw[if_pos c,if_neg c]
  rw[e2];refine Out.seq h1 (X2:=l) (g2:=some (B9 (n::l) (fm d.files))) ?_ ?_ (by simp) (fun k hk=>by simp[hk]) (by simp) (by simp)
  ·intro h0 hd1 hf1 hs1;have h2:=Aj G l (ai d (bN d.files n)).1 hs1 hn.2 hd1 (fun k hk=>by
    rw[hf1,bv _ _ (fun e=>hn.1 (by rw[<- e];exact hk))];exact h k (by simp[hk]))
   rw[hf1] at h2;refine h2.eq rfl ?_;congr 1
   funext k
   unfold B9;by_cases c:k=n
   ·simp[c,hn.1,db]
   ·by_cases c2:k∈l
    ·rw[if_pos c2,if_pos (List.mem_cons_of_mem _ c2)]
    ·rw[if_neg c2,if_neg (by simp[c,c2]),bv _ _ c]
  ·intro k hk;exact bv _ _ (fun e=>hk (by simp[e]))
theorem Out.back {d:Dsk} {r:Dsk × Int} {X:List Txt} {G g:FM} (h:Out d r X G (some g)) (l:List Txt) (hl:l.Nodup) (hn:∀ n∈l,g n≠none) (hg:∀ k,k ∉ X->k ∉ l->g k=fm d.files k) (hX:∀ n∈l,n∈X):Out d (if r.2=9 then di l r.1 else r) X G (some (B9 l g)):=by
 obtain⟨k1,s1,o1⟩:=h;rcases o1 with⟨e,hd,hf⟩|⟨q,hq,e,hd,hf⟩|⟨e,hd,hf⟩
 ·rw[if_neg (by rw[e];decide)]
  exact⟨k1,s1,.inl ⟨e,hd,hf⟩⟩
 ·cases hq;rw[if_pos e];have hb:=Aj G l r.1 s1 hl hd (by rw[hf];exact hn)
  rw[hf] at hb;refine⟨k1.trans hb.1,hb.2.1,?_⟩;rcases hb.2.2 with o|o|⟨e2,hd2,hf2⟩
  ·exact .inl o
  ·exact .inr (.inl o)
  ·refine .inr (.inr ⟨e2,hd2,fun k hk=>?_⟩)
   have hkl:k ∉ l:=fun hm=>hk (hX k hm)
   rw[hf2 k hkl,hf];exact hg k hk hkl
 ·rw[if_neg (by rw[e];decide)]
  exact⟨k1,s1,.inr (.inr ⟨e,hd,hf⟩)⟩
theorem Vr (F:FM) (n:Txt):B9 [n] F=up F n none:=by
 funext k;unfold B9 up;simp
theorem Jt {F:FM} {a b:Txt} (v w:Option (Txt × Int)) (ha:F a=none) (hb:F b=none):B9 [b,a] (up (up F a v) b w)=F:=by
 funext k;unfold B9 up
 by_cases c1:k=b
 ·simp[c1,hb]
 ·by_cases c2:k=a
  ·simp[c2,ha]
  ·simp[c1,c2]
theorem Pn {d:Dsk} (hs:srt d.files) {n g x:Txt} {m:Man} (hm:manB m=true) (hn:dU n=true) (hg:dU g=true) (hng:n≠g) (hn2:n≠[110]) (hg2:g≠[110]) (h1:d.down=false->fm d.files [110]=none) (h2:d.down=false->fm d.files n=none) (h3:d.down=false->fm d.files g=none) :
  Out d (u0 n g x m d).1 [n,g,[110]] (up (up (up (fm d.files) n (some (x,((x.length:Nat):Int)))) g (some ([],0))) [109] (manV m)) (some (fm d.files)):=by
 by_cases hd:d.down=true
 ·unfold u0;rw[lX hd,if_pos (by simp)]
  exact .dn hs hd _ _ _
 ·have hd:d.down=false:=by simpa using hd
  have hF:=h2 hd;have hG:=h3 hd;have hN:=h1 hd;have k4:∀ d4:Dsk,srt d4.files->d4.down=false->fm d4.files=up (up (fm d.files) n (some (x,((x.length:Nat):Int)))) g (some ([],0))->Out d4 (u4 n g m d4).1 [n,g,[110]] (up (up (up (fm d.files) n (some (x,((x.length:Nat):Int)))) g (some ([],0))) [109] (manV m)) (some (fm d.files)):=by
   intro d4 hs4 hd4 hf4;have a1:=(qp hs4 hm (fun _=>by rw[hf4,bv _ _ hg2.symm,bv _ _ hn2.symm];exact hN)).upX (Y:=[n,g,[110]]) (by simp)
   have a2:=a1.back [g,n] (by simp[hng.symm]) (by
    intro y hy;simp only[List.mem_cons,List.mem_nil_iff,or_false] at hy;rcases hy with rfl|rfl
    ·rw[hf4,db];simp
    ·rw[hf4,bv _ _ hng,db];simp) (fun _ _ _=>rfl) (by simp)
   have e:(u4 n g m d4).1=if(bT m (d4,0)).2=9 then di [g,n] (bT m (d4,0)).1 else bT m (d4,0):=by unfold u4;split <;> rfl
   rw[e];rw[hf4] at a2;refine a2.eq rfl ?_;rw[Jt _ _ hF hG]
  have k3:∀ d3:Dsk,srt d3.files->d3.down=false->fm d3.files=up (fm d.files) n (some (x,((x.length:Nat):Int)))->Out d3 (u3 n g m d3).1 [n,g,[110]] (up (up (up (fm d.files) n (some (x,((x.length:Nat):Int)))) g (some ([],0))) [109] (manV m)) (some (fm d.files)):=by
   intro d3 hs3 hd3 hf3;have a1:=nQ hs3 hg (by rw[hf3,bv _ _ hng.symm];exact hG)
   have e:(u3 n g m d3).1=if(ai d3 (bB d3.files g)).2=0 then(u4 n g m (ai d3 (bB d3.files g)).1).1 else ai d3 (bB d3.files g):=by
    unfold u3;by_cases c:(ai d3 (bB d3.files g)).2=0
    ·rw[if_neg (by simp[c]),if_pos c]
    ·rw[if_pos c,if_neg c]
   rw[e];refine Out.seq a1 (g2:=some (fm d.files)) (fun h0 hd4 hf4 hs4=>k4 _ hs4 hd4 (by rw[hf4,hf3])) (fun y hy=>?_) (by simp) (fun _ h=>h) (by simp) (by simp)
   exact bv _ _ (fun e=>hy (by simp[e]))
  have k2:∀ d2:Dsk,srt d2.files->d2.down=false->fm d2.files=up (fm d.files) n (some (x,0))->Out d2 (u2 n g m d2).1 [n,g,[110]] (up (up (up (fm d.files) n (some (x,((x.length:Nat):Int)))) g (some ([],0))) [109] (manV m)) (some (fm d.files)):=by
   intro d2 hs2 hd2 hf2;have a1:=my hs2 (n:=n) (v:=(x,0)) (by rw[hf2,db])
   rw[hf2,jk] at a1;have e:(u2 n g m d2).1=if(ai d2 (ch d2.files n)).2=0 then(u3 n g m (ai d2 (ch d2.files n)).1).1 else ai d2 (ch d2.files n):=by
    unfold u2;by_cases c:(ai d2 (ch d2.files n)).2=0
    ·rw[if_neg (by simp[c]),if_pos c]
    ·rw[if_pos c,if_neg c]
   rw[e];refine Out.seq a1 (g2:=some (fm d.files)) (fun h0 hd4 hf4 hs4=>k3 _ hs4 hd4 hf4) (fun y hy=>?_) (by simp) (fun _ h=>h) (by simp) (by simp)
   rw[hf2,bv _ _ (fun e=>hy (by simp[e])),bv _ _ (fun e=>hy (by simp[e]))]
  have k1:∀ d1:Dsk,srt d1.files->d1.down=false->fm d1.files=up (fm d.files) n (some ([],0))->Out d1 (u1 n g x m d1).1 [n,g,[110]] (up (up (up (fm d.files) n (some (x,((x.length:Nat):Int)))) g (some ([],0))) [109] (manV m)) (some (fm d.files)):=by
   intro d1 hs1 hd1 hf1;have a1:=(t7 hs1 x (n:=n) (v:=([],0)) (by rw[hf1,db])).upX (Y:=[n,g,[110]]) (by simp)
   have a2:=a1.back [n] (by simp) (by
    intro y hy;rw[zV.1 hy,hf1,db];simp) (fun _ _ _=>rfl) (by simp)
   rw[hf1,jk,Vr,jk,mK hF] at a2;have e:(u1 n g x m d1).1=if(if(ai d1 (bM d1.files d1.cap n x)).2=9 then di [n] (ai d1 (bM d1.files d1.cap n x)).1 else ai d1 (bM d1.files d1.cap n x)).2=0 then(u2 n g m (if(ai d1 (bM d1.files d1.cap n x)).2=9 then di [n] (ai d1 (bM d1.files d1.cap n x)).1 else ai d1 (bM d1.files d1.cap n x)).1).1 else(if(ai d1 (bM d1.files d1.cap n x)).2=9 then di [n] (ai d1 (bM d1.files d1.cap n x)).1 else ai d1 (bM d1.files d1.cap n x)):=by
    unfold u1;by_cases c:(ai d1 (bM d1.files d1.cap n x)).2=9
    ·rw[if_pos c,if_pos c,if_neg (En _ _)]
    ·rw[if_neg c,if_neg c];by_cases c0:(ai d1 (bM d1.files d1.cap n x)).2=0
     ·rw[if_neg (by simp[c0]),if_pos c0]
     ·rw[if_pos c0,if_neg c0]
   rw[e];refine Out.seq a2 (X2:=[n,g,[110]]) (g2:=some (fm d.files)) (fun h0 hd4 hf4 hs4=>k2 _ hs4 hd4 hf4) (fun y hy=>?_) (fun _ h=>h) (fun _ h=>h) (by simp) (by simp)
   rw[hf1];exact(bv _ _ (fun e=>hy (by simp[e]))).trans (bv _ _ (fun e=>hy (by simp[e]))).symm
  have a1:=nQ hs hn hF;have e:(u0 n g x m d).1=if(ai d (bB d.files n)).2=0 then(u1 n g x m (ai d (bB d.files n)).1).1 else ai d (bB d.files n):=by
   unfold u0;by_cases c:(ai d (bB d.files n)).2=0
   ·rw[if_neg (by simp[c]),if_pos c]
   ·rw[if_pos c,if_neg c]
  rw[e];refine Out.seq a1 (g2:=some (fm d.files)) (fun h0 hd4 hf4 hs4=>k1 _ hs4 hd4 hf4) (fun y hy=>?_) (by simp) (fun _ h=>h) (by simp) (by simp)
  exact bv _ _ (fun e=>hy (by simp[e]))
theorem tR:∀ (l:List Txt) (d:Dsk),Ah l d=tZ l (d,0)
 | [],d=>rfl
 | n::l,d=>by
  have e1:dH n (d,0)=ai d (bN d.files n):=bD _ _;rw[nq,e1,Ah];split
  ·rename_i h0;rw[tR l,<- gO h0]
  ·rename_i h0;exact(tF l _ h0).symm
variable {k u:Nat} {f:Int} {S:Txt} {l0:List Pr} {s:Sto} {M:List SR} {g:Seg} {l:List Rec}
theorem DT {ver at_:Int} {x:Txt} (hv:1<=ver∧ver<=1099511627776) (ha:0<at_∧at_<=1099511627776) (hx:1<=x.length∧x.length<=65536):manB (fZ ver at_ x).man=true:=by
 refine xZ hv ⟨by simp[fZ,Sto.man],by simp[fZ,Sto.man]⟩ ?_ (.inr ⟨?_,?_⟩)
 ·show lx (-1) [at_]=true;simp[lx];omega
 ·show([at_]:List Int).head?≠some 0;simp;omega
 ·show 0<((x.length:Nat):Int)∧((x.length:Nat):Int)<=65536;omega
theorem Av (ho:okS k u s) (h:W f S l0 s M g l):(gm s).Nodup:=by
 have:=vw ho h s.segs.length;unfold ls at this;rw[List.take_length] at this;exact this
theorem Gl {x:Txt} {q:List Pr} (h:aU x=some q):1<=x.length:=by
 cases x with
 | nil=>simp[aU,kA] at h
 | cons a r=>simp
theorem WR.inst {R:List Rec} (ho:okS k u s) (h:WR f S l0 s R) (hv:u<1000000000000) (at_:Int) {x:Txt} (hx:x.length<=20000) :
  ((bw s at_ x).2=1∧(bw s at_ x).1=s∧(aU x=none∨at_<=s.next∨1099511627776<at_)) ∨
  ((∃ q,aU x=some q∧s.next<at_∧at_<=1099511627776 ∧
   ((((bw s at_ x).2=9∧(bw s at_ x).1.disk.down=false∧fm (bw s at_ x).1.disk.files=fm s.disk.files)∨((bw s at_ x).2=10∧(bw s at_ x).1.disk.down=true))∧(bw s at_ x).1={ s with disk:=(bw s at_ x).1.disk }∧srt (bw s at_ x).1.disk.files∧Dk s.disk (bw s at_ x).1.disk∧WR f S l0 (bw s at_ x).1 R ∨
   ((bw s at_ x).2=0∧(bw s at_ x).1.disk.down=false∨(bw s at_ x).2=10∧(bw s at_ x).1.disk.down=true)∧WR at_ x q (bw s at_ x).1 []∧(bw s at_ x).1.next=at_∧(bw s at_ x).1.sure=at_∧(bw s at_ x).1.disk.cap=s.disk.cap))):=by
 have h0:=h;have hsn:=h.sure;have hfl:=WR.floor h0;have hf0:0<=f:=by rw[<- hfl];exact(fD ho).1
 obtain⟨M,g,l,h,rfl⟩:=h;unfold bw;by_cases c0:aU x=none∨at_<=s.next∨1099511627776<at_
 ·rw[if_pos c0];exact .inl ⟨rfl,rfl,c0⟩
 ·rw[if_neg c0];simp only[not_or] at c0;obtain⟨q,hq⟩:=Option.ne_none_iff_exists'.1 c0.1;have hna:s.next<at_:=by omega
  have hab:at_<=1099511627776:=by omega
  have hxp:=Gl hq;have hv1:=(iE h.right).1.1;have hv2:=ho.ver;have hvm:s.man.ver=s.ver:=rfl;rw[hvm] at hv1;refine .inr ⟨q,hq,hna,hab,?_⟩;have hmr:manB (fZ (s.ver+1) at_ x).man=true:=DT (by omega) (by omega) (by omega)
  have hbase:∀ a∈s.segs,0<=a.base∧a.base<=s.next:=by
   intro a ha;have hn:=h.inv.next;have hcm:=dY _ _ _ h.inv.chain;refine⟨(ho.seg a ha).1.1,?_⟩;rw[h.inv.segs] at ha;rcases zX.1 ha with ha|ha
   ·obtain⟨p,hp,rfl⟩:=List.mem_map.1 ha;have:=hcm.2 p hp;omega
   ·rw[zV.1 ha];omega
  have nr1:¬ rel f s (aC at_):=W.not_rel ho (by omega) (by omega)
  have nr2:¬ rel f s (fileN at_):=by
   rintro(e|⟨b,hb,e⟩|⟨_,e⟩)
   ·exact absurd e (kz _ (by rw[bV];decide))
   ·have:=dZ (by omega) (ho.seg b hb).1 e
    have:=hbase b hb;omega
   ·exact absurd e.symm (cZ _ _)
  have none_of:∀ n,¬ rel f s n->s.disk.down=false->fm s.disk.files n=none:=fun n hn hd=>by
   cases hx:fm s.disk.files n with
   | none=>rfl
   | some v=>exact absurd (h.only hd n (by rw[hx];simp)) hn
  have hO:=Pn ho.dsk.srt (n:=aC at_) (g:=fileN at_) (x:=x) hmr (Jk _) (CG _) (cZ _ _) (Dy _ (by rw[d8];decide)) (Dy _ (by rw[bV];decide)) (none_of _ (n4 f s)) (none_of _ nr1) (none_of _ nr2)
  generalize (u0 (aC at_) (fileN at_) x (fZ (s.ver+1) at_ x).man s.disk).1=e at *;by_cases c1:e.2=0
  ·rw[if_neg (by simp[c1])]
   rcases hO.2.2 with⟨_,hd,hf⟩|⟨_,_,e9,_⟩|⟨e10,_⟩
   ·refine .inr ?_;have hdn:=hO.1.up_of hd;have hmem:∀ m,m∈gm s↔(∃ a∈s.segs,m=fileN a.base)∨(0<f∧m=aC f):=by
     intro m;unfold gm;rw[zX,List.mem_map,hfl];constructor
     ·rintro(⟨a,ha,rfl⟩|hm)
      ·exact .inl ⟨a,ha,rfl⟩
      ·split at hm
       ·rename_i c;exact .inr ⟨c,zV.1 hm⟩
       ·cases hm
     ·rintro(⟨a,ha,rfl⟩|⟨hc,rfl⟩)
      ·exact .inl ⟨a,ha,rfl⟩
      ·rw[if_pos hc];exact .inr (by simp)
    have hne:∀ m∈gm s,m≠[109]∧m≠aC at_∧m≠fileN at_∧fm s.disk.files m≠none:=by
     intro m hm;have hr:rel f s m:=by
      rcases(hmem m).1 hm with hm|hm
      ·exact .inr (.inl hm)
      ·exact .inr (.inr hm)
     refine⟨?_,fun e=>nr1 (e ▸ hr),fun e=>nr2 (e ▸ hr),?_⟩
     ·rcases(hmem m).1 hm with⟨a,_,rfl⟩|⟨_,rfl⟩
      ·exact kz _ (by rw[bV];decide)
      ·exact kz _ (by rw[d8];decide)
     ·rcases(hmem m).1 hm with⟨a,ha,rfl⟩|⟨hc,rfl⟩
      ·rw[h.inv.segs] at ha;rcases zX.1 ha with ha|ha
       ·obtain⟨p,hp,rfl⟩:=List.mem_map.1 ha;rw[h.full p hp];simp
       ·rw[zV.1 ha];obtain⟨j,h1,_⟩:=h.last;rw[h1];simp
      ·rcases h.snp with⟨h1,_⟩|⟨_,h1,_⟩
       ·omega
       ·rw[h1];simp
    have hg:=tQ (gm s) e.1 hO.2.1 (Av ho h) hd (fun m hm=>by
     have:=hne m hm;rw[hf,bv _ _ this.1,bv _ _ this.2.2.1,bv _ _ this.2.1];exact this.2.2.2)
    rw[tR];generalize tZ (gm s) (e.1,0)=w at *;have n1:[109] ∉ gm s:=fun hm=>(hne _ hm).1 rfl
    have n2:aC at_ ∉ gm s:=fun hm=>(hne _ hm).2.1 rfl
    have n3:fileN at_ ∉ gm s:=fun hm=>(hne _ hm).2.2.1 rfl
    have hkeep:∀ m,m ∉ gm s->fm w.1.files m=fm e.1.files m:=by
     intro m hm;rcases hg.2.2 with⟨_,_,hf⟩|⟨_,hc,_⟩|⟨_,_,hf⟩
     ·rw[hf];exact if_neg hm
     ·cases hc
     ·exact hf m hm
    refine⟨?_,⟨[],⟨at_,0,0⟩,[],⟨⟨rfl,fun p hp=>?_,rfl,by show at_=at_+_;simp,by show 0<=at_∧at_<=at_;omega⟩,.inr ⟨by omega,?_,hq,rfl,rfl⟩,?_,hmr,fun p hp=>(by cases hp),⟨0,?_,by simp[rowS],by simp⟩,Int.le_refl _,fun hd2 m hm=>?_⟩,rfl⟩,rfl,rfl,hg.1.cap.trans hO.1.cap⟩
    ·rcases hg.2.2 with⟨a,b,_⟩|⟨_,hc,_⟩|⟨a,b,_⟩
     ·exact .inl ⟨a,b⟩
     ·cases hc
     ·exact .inr ⟨a,b⟩
    ·rw[List.nil_append,zV] at hp;subst hp;refine⟨(jx hg.2.1 _ _).2 ⟨0,?_⟩,fun r hr=>(by cases hr),fun i hi=>(by simp at hi),rfl,rfl⟩
     rw[hkeep _ n3,hf,bv _ _ (kz _ (by rw[bV];decide)),db];rfl
    ·show fm w.1.files _=_;rw[hkeep _ n2,hf,bv _ _ (kz _ (by rw[d8];decide)),bv _ _ (cZ _ _),db]
    ·show fm w.1.files _=_;rw[hkeep _ n1,hf,db];rfl
    ·show fm w.1.files _=_;rw[hkeep _ n3,hf,bv _ _ (kz _ (by rw[bV];decide)),db];rfl
    ·have hm2:fm w.1.files m≠none:=hm;have hd3:w.1.down=false:=hd2;rcases hg.2.2 with⟨_,_,hfw⟩|⟨_,hc,_⟩|⟨_,b,_⟩
     ·rw[hfw] at hm2;unfold B9 at hm2;by_cases c:m∈gm s
      ·rw[if_pos c] at hm2;exact absurd rfl hm2
      ·rw[if_neg c,hf] at hm2;by_cases a1:m=[109]
       ·exact .inl a1
       ·rw[bv _ _ a1] at hm2;by_cases a2:m=fileN at_
        ·exact .inr (.inl ⟨⟨at_,0,0⟩,by show _∈[(⟨at_,0,0⟩:Seg)];simp,a2⟩)
        ·rw[bv _ _ a2] at hm2;by_cases a3:m=aC at_
         ·exact .inr (.inr ⟨by omega,a3⟩)
         ·rw[bv _ _ a3] at hm2;rcases h.only hdn m hm2 with e|e|e
          ·exact absurd e a1
          ·exact absurd ((hmem m).2 (.inl e)) c
          ·exact absurd ((hmem m).2 (.inr e)) c
     ·cases hc
     ·rw[hd3] at b;cases b
   ·rw[e9] at c1;cases c1
   ·rw[e10] at c1;cases c1
  ·rw[if_pos c1];have hw:=h.fail ho.dsk.srt hO c1 (by
    intro m hm;simp only[List.mem_cons,List.mem_nil_iff,or_false] at hm;rcases hm with rfl|rfl|rfl
    ·exact nr1
    ·exact nr2
    ·exact n4 f s)
   refine .inl ⟨?_,rfl,hO.2.1,hO.1,M,g,l,hw.1,rfl⟩;rcases hw.2 with⟨a,b,c⟩|⟨a,b⟩
   ·exact .inl ⟨a,c,b⟩
   ·exact .inr ⟨a,b⟩
variable {k u:Nat}
def idl (p:Bool) (d:Dsk):Prop:=d.cap=0∧(p=true->d.armed=false∧d.down=false)
def i0 (p:Bool) (r:Dsk × Int):Prop:=idl p r.1∧r.2≠9∧(p=true->r.2≠10)
variable {p:Bool} {d:Dsk} {s:Dsk × Int} {t:Sto}
theorem Jj (h:idl p d) {r:List Fil × Int} (hr:r.2≠9∧r.2≠10):i0 p (ai d r):=by
 obtain⟨h1,h2⟩:=h;unfold ai;split
 ·rename_i c;exact⟨⟨h1,h2⟩,by simp,fun hp=>by rw[(h2 hp).2] at c;cases c⟩
 ·split
  ·exact⟨⟨h1,h2⟩,hr.1,fun _=>hr.2⟩
  ·split
   ·rename_i c;have hn:¬ p=true:=fun hp=>by rw[(h2 hp).1] at c;cases c
    split
    ·exact⟨⟨h1,fun hp=>absurd hp hn⟩,by simp,fun hp=>absurd hp hn⟩
    ·exact⟨⟨h1,fun hp=>absurd hp hn⟩,by simp,fun hp=>absurd hp hn⟩
   ·exact⟨⟨h1,h2⟩,by simp,by simp⟩
theorem Kj (h:idl p d) (n:Txt):i0 p (ai d (bB d.files n)):=Jj h (by
 unfold bB;split
 ·split <;> simp
 ·simp)
theorem Lm (h:idl p d) (n x:Txt):i0 p (ai d (bM d.files d.cap n x)):=Jj h (by
 unfold bM;rw[h.1];split
 ·simp
 ·simp)
theorem Mw (h:idl p d) (n:Txt):i0 p (ai d (ch d.files n)):=Jj h (by unfold ch;split <;> simp)
theorem QY (h:idl p d) (n:Txt):i0 p (ai d (bN d.files n)):=Jj h (by unfold bN;split <;> simp)
theorem Vb (h:idl p d) (n t:Txt):i0 p (ai d (i8 d.files n t)):=Jj h (by
 unfold i8;split
 ·split <;> simp
 ·simp)
theorem ww {f:Dsk->Dsk × Int} (h:i0 p s) (hf:idl p s.1->i0 p (f s.1)):i0 p (tV s f):=by
 unfold tV;split
 ·exact hf h.1
 ·exact h
theorem LY (h:i0 p s) (n:Txt):cV n s=s:=by unfold cV;rw[if_pos h.2.1]
theorem JE (h:i0 p s) (m:Man):i0 p (bT m s):=by
 unfold bT;simp only[];have h1:i0 p (if s.2=0 then(s.1,(bc m).2) else s):=by
  split
  ·exact⟨h.1,by unfold bc;split <;> simp,by unfold bc;split <;> simp⟩
  ·exact h
 generalize (if s.2=0 then(s.1,(bc m).2) else s)=s1 at *
 have h2:i0 p (if(az s1.1.files [110]).2=0 then dH [110] s1 else s1):=by
  split
  ·exact ww h1 fun h=>QY h _
  ·exact h1
 generalize (if(az s1.1.files [110]).2=0 then dH [110] s1 else s1)=s2 at *
 have h3:i0 p (bR [110] s2):=ww h2 fun h=>Kj h _
 split
 ·exact h3
 ·have h4:i0 p (fL [110] (bc m).1 (bR [110] s2)):=ww h3 fun h=>Lm h _ _
  rw[LY h4];have h5:i0 p (fi [110] (fL [110] (bc m).1 (bR [110] s2))):=ww h4 fun h=>Mw h _
  exact ww h5 fun h=>Vb h _ _
theorem Ol:∀ (l:List Txt) (s:Dsk × Int),i0 p s->i0 p (tZ l s)
 | [],s,h=>h
 | n::l,s,h=>Ol l _ (ww h fun h=>QY h n)
theorem WK (h:idl p d) (n g x:Txt) (m:Man):i0 p (u0 n g x m d).1:=by
 have p4:∀ d:Dsk,idl p d->i0 p (u4 n g m d).1:=fun d h=>by
  have h2:=JE (s:=(d,0)) ⟨h,by simp,by simp⟩ m
  unfold u4;rw[if_neg h2.2.1];exact h2
 have p3:∀ d:Dsk,idl p d->i0 p (u3 n g m d).1:=fun d h=>by
  have h2:=Kj h g;unfold u3;split
  ·exact h2
  ·exact p4 _ h2.1
 have p2:∀ d:Dsk,idl p d->i0 p (u2 n g m d).1:=fun d h=>by
  have h2:=Mw h n;unfold u2;split
  ·exact h2
  ·exact p3 _ h2.1
 have p1:∀ d:Dsk,idl p d->i0 p (u1 n g x m d).1:=fun d h=>by
  have h2:=Lm h n x;unfold u1;rw[if_neg h2.2.1];split
  ·exact h2
  ·exact p2 _ h2.1
 have h2:=Kj h n;unfold u0;split
 ·exact h2
 ·exact p1 _ h2.1
def j0 (p:Bool) (t:Sto) (r:Sto × Int):Prop:=i0 p (r.1.disk,r.2)∧r.1.ver<=t.ver+1
theorem Ri (h:idl p t.disk) (at_:Int) (x:Txt):j0 p t (bw t at_ x):=by
 unfold bw;split
 ·exact⟨⟨h,by simp,by simp⟩,by show t.ver<=_;omega⟩
 ·have h2:=WK h (aC at_) (fileN at_) x (fZ (t.ver+1) at_ x).man;split
  ·exact⟨h2,by show t.ver<=_;omega⟩
  ·rename_i hc;refine⟨?_,Int.le_refl _⟩;show i0 p (Ah _ _);rw[tR];exact Ol (gm t) ((u0 (aC at_) (fileN at_) x (fZ (t.ver+1) at_ x).man t.disk).1.1,0) ⟨h2.1,by simp,by simp⟩
theorem N2 (h:idl p t.disk):i0 p ((aW t).1.disk,(aW t).2)∧(aW t).1.ver=t.ver:=⟨Mw h (fileN t.last.base),rfl⟩
theorem Rd (h:idl p t.disk) (hl:t.segs.length<64):j0 p t (cC t):=by
 unfold cC;rw[if_neg (by omega)]
 have h1:=(N2 h).1;split
 ·exact⟨h1,by show t.ver<=_;omega⟩
 ·have h2:i0 p (eK (aW t).1):=by
   unfold eK;simp only[];have h3:i0 p (bR (fileN (aW t).1.next) ((aW t).1.disk,0)):=ww ⟨h1.1,by simp,by simp⟩ fun h=>Kj h _
   split
   ·have h4:=JE h3 (la (aW t).1).man;rw[LY h4];exact h4
   ·exact h3
  split
  ·exact⟨⟨h2.1,by simp,by simp⟩,Int.le_refl _⟩
  ·exact⟨h2,by show t.ver<=_;omega⟩
theorem Rk (h:idl p t.disk) (x:Txt):i0 p ((gc t x).1.disk,(gc t x).2)∧(gc t x).1.ver=t.ver:=by
 have h1:=Lm h (fileN t.last.base) x;unfold gc;simp only[];split
 ·exact⟨h1,rfl⟩
 ·exact⟨⟨h1.1,by simp,by simp⟩,rfl⟩
theorem Rn (h:idl p t.disk) (hl:t.segs.length<64) (seg:Int) (r:Rec):j0 p t (eQ t seg r):=by
 have h1:=Rd h hl;unfold eQ;split
 ·exact⟨⟨h,by simp,by simp⟩,by show t.ver<=_;omega⟩
 ·split
  ·exact⟨⟨h,by simp,by simp⟩,by show t.ver<=_;omega⟩
  ·split
   ·split
    ·exact h1
    ·have h2:=Rk h1.1.1 (fj r).1;exact⟨h2.1,by rw[h2.2];exact h1.2⟩
   ·have h2:=Rk h (fj r).1;exact⟨h2.1,by rw[h2.2];omega⟩
theorem UY (h:idl p d) (n x:Txt) (m:Man):i0 p (mU d n x m):=by
 unfold mU;simp only[];have h1:i0 p (bR n (d,0)):=ww ⟨h,by simp,by simp⟩ fun h=>Kj h _
 have h2:i0 p (if(bR n (d,0)).2=0 then cV n (fL n x (bR n (d,0))) else bR n (d,0)):=by
  split
  ·have h3:i0 p (fL n x (bR n (d,0))):=ww h1 fun h=>Lm h _ _
   rw[LY h3];exact h3
  ·exact h1
 generalize (if(bR n (d,0)).2=0 then cV n (fL n x (bR n (d,0))) else bR n (d,0))=s2 at *
 have h3:i0 p (fi n s2):=ww h2 fun h=>Mw h _
 split
 ·have h4:=JE h3 m;rw[LY h4];exact h4
 ·exact h3
theorem R0 (h:idl p t.disk) (keep count:Int):j0 p t (cY t keep count):=by
 unfold cY;split
 ·exact⟨⟨h,by simp,by simp⟩,by show t.ver<=_;omega⟩
 ·unfold sI;simp only[];have h1:=UY h (aC (aL t.segs (eR t.segs keep count))) (aX (bC t (aL t.segs (eR t.segs keep count)))) (eJ t (eR t.segs keep count)).man;split
  ·exact⟨h1,by show t.ver<=_;omega⟩
  ·rw[CN];exact⟨Ol _ _ h1,Int.le_refl _⟩
def xu (b:Txt):Nat->Nat->List Nat->Option (List Nat × Nat)
 | 0,a,l=>some (l,a)
 | n+1,a,l=>match kA (b.drop a) 0 0 with
  | some (v,j)=>xu b n (a+j) (l++[v])
  | none=>none
def Lj:Txt->Int
 | [a,b,c,d]=>(a.toNat+256*(b.toNat+256*(c.toNat+256*d.toNat)):Nat)
 | _=>0
def A6 (b:Txt):Man:=match xu b 2 0 [] with
 | some ([v,n],a)=>match xu b (min n 64+1) a [] with
  | some (l,a2)=>⟨v,l.dropLast.map Int.ofNat,((l.getLastD 0:Nat):Int),Lj (b.drop a2)⟩
  | none=>⟨0,[],0,0⟩
 | _=>⟨0,[],0,0⟩
def cJ (s:Txt):Option Man:=if manB (A6 (dV s 0).1)=true∧aT (A6 (dV s 0).1)=s then some (A6 (dV s 0).1) else none
theorem u9:∀ (vs:List Nat) (pre rest:Txt) (l:List Nat),(∀ v∈vs,v<9223372036854775808)->xu (pre++(vs.flatMap ah++rest)) vs.length pre.length l=some (l++vs,(pre++vs.flatMap ah).length)
 | [],pre,rest,l,_=>by simp[xu]
 | v::vs,pre,rest,l,h=>by
  have e:pre++((v::vs).flatMap ah++rest)=(pre++ah v)++(vs.flatMap ah++rest):=by simp
  have hd:(pre++((v::vs).flatMap ah++rest)).drop pre.length=ah v++(vs.flatMap ah++rest):=by
   rw[List.drop_left];simp
  have hr:=kN v (vs.flatMap ah++rest) (h v (by simp))
  have ih:=u9 vs (pre++ah v) rest (l++[v]) (fun x hx=>h x (by simp[hx]))
  have hl:(pre++ah v).length=pre.length+nd v:=by rw[zA];rfl
  rw[List.length_cons,xu,hd,hr];simp only[];rw[e,<- hl,ih];simp
theorem xa (x:jn):Lj (dN x)=((x.toNat:Nat):Int):=by
 have h:=IV x;have e:dN x=[UInt8.ofNat x.toNat,UInt8.ofNat (x >>> 8).toNat,UInt8.ofNat (x >>> 16).toNat,UInt8.ofNat (x >>> 24).toNat]:=rfl;rw[e] at h ⊢;simp only[Lj];have h2:x.toNat=(UInt8.ofNat x.toNat).toNat+256*(UInt8.ofNat (x >>> 8).toNat).toNat+65536*(UInt8.ofNat (x >>> 16).toNat).toNat+16777216*(UInt8.ofNat (x >>> 24).toNat).toNat:=h;omega
theorem Ef {m:Man} (hm:m.ok):(((iA m).toNat:Nat):Int)=m.sum:=by
 have:=hm.sum;unfold iA;rw[BitVec.toNat_ofNat];omega
theorem BH {m:Man} (h:manB m=true):dV (aT m) 0=(bY m,(aT m).length,0):=by
 have hb:=kZ h;have:=sN [] (bY m) [] hb.1 (by omega)
 simp only[List.nil_append,List.append_nil,List.length_nil,Nat.zero_add] at this;exact this
theorem Hw (l:List Int):bE l=(l.map Int.toNat).flatMap ah:=by
 unfold bE;rw[List.flatMap_map]
theorem JC {m:Man} (h:manB m=true) (hm:m.ok):A6 (bY m)=m:=by
 obtain⟨h1,h2,h3,h4⟩:=iE h;have hin:=ke _ _ h3;have hb:bY m=[]++(([m.ver.toNat,m.segs.length]:List Nat).flatMap ah++((m.segs.map Int.toNat++[m.size.toNat]).flatMap ah++dN (iA m))):=by
  unfold bY;rw[Hw];simp
 have n1:=u9 [m.ver.toNat,m.segs.length] [] ((m.segs.map Int.toNat++[m.size.toNat]).flatMap ah++dN (iA m)) [] (by
  intro v hv;simp only[List.mem_cons,List.mem_nil_iff,or_false] at hv;rcases hv with rfl|rfl <;> omega)
 have n2:=u9 (m.segs.map Int.toNat++[m.size.toNat]) (([m.ver.toNat,m.segs.length]:List Nat).flatMap ah) (dN (iA m)) [] (by
  intro v hv;rw[zX,List.mem_map,zV] at hv;rcases hv with⟨a,ha,rfl⟩|rfl
  ·have:=hin a ha;omega
  ·omega)
 have hb2:bY m=([m.ver.toNat,m.segs.length]:List Nat).flatMap ah++((m.segs.map Int.toNat++[m.size.toNat]).flatMap ah++dN (iA m)):=by rw[hb];simp
 rw[<- hb] at n1;rw[<- hb2] at n2;have hl2:([m.ver.toNat,m.segs.length]:List Nat).length=2:=rfl;rw[hl2] at n1;simp only[List.nil_append,List.length_nil] at n1 n2;have hmin:min m.segs.length 64+1=(m.segs.map Int.toNat++[m.size.toNat]).length:=by simp;omega
 unfold A6;rw[n1];simp only[hmin,n2];have hd:(bY m).drop (([m.ver.toNat,m.segs.length]:List Nat).flatMap ah++(m.segs.map Int.toNat++[m.size.toNat]).flatMap ah).length=dN (iA m):=by
  rw[hb2,<- List.append_assoc,List.drop_left]
 rw[hd,xa,Ef hm];have hsg:(m.segs.map Int.toNat++[m.size.toNat]).dropLast.map Int.ofNat=m.segs:=by
  rw[List.dropLast_concat,List.map_map];conv=>rhs;rw[<- List.map_id m.segs]
  apply List.map_congr_left;intro a ha;have:=hin a ha;show((a.toNat:Nat):Int)=a;omega
 rw[hsg];have hsz:(((m.segs.map Int.toNat++[m.size.toNat]).getLastD 0:Nat):Int)=m.size:=by
  simp[List.getLastD_eq_getLast?];omega
 rw[hsz];have hvv:((m.ver.toNat:Nat):Int)=m.ver:=by omega
 rw[hvv]
theorem pD {m:Man} (h:manB m=true) (hm:m.ok):cJ (aT m)=some m:=by
 unfold cJ;rw[BH h];simp only[JC h hm];rw[if_pos ⟨h,trivial⟩]
theorem dD {s:Txt} {m:Man} (h:cJ s=some m):manB m=true∧aT m=s:=by
 unfold cJ at h;split at h
 ·rename_i hc;cases h;exact hc
 ·cases h
end Go.Proofs.YtgoifbjgmgbihaaGreat
